/- The law NamesFreeAt holds: for every text and every number the law returns true, and its arguments read as before. No condition. Part 1: LexM ParM NamM Base Mem. -/
import Derived.Test.YtoepemlnlpamlaaGreatProg
import Derived.WalkKit
import Derived.WalkSpells
import Derived.WalkLawsBesides
import Derived.Deep.QuietTactic
import Derived.BigQuiet
import Derived.Lib.Hide
import Derived.Deep.AppendSrc
import Derived.Deep.AppendLies
import Derived.Deep.Draws
import Derived.Deep.Upon
import Derived.Deep.LoopGhost
import Derived.Deep.RegionHeld3
import Derived.Deep.RegionLaw
import Derived.Deep.DeepCutAuto
import Derived.Deep.DeepFit
import Derived.BigRegion
import Derived.StillTailTactics
namespace Go.Proofs.YtoepemlnlpamlaaGreat
set_option maxRecDepth 100000
set_option maxHeartbeats 4000000
abbrev Bytes:=List UInt8
def mkS (l:Bytes):ByteArray:=⟨l.toArray⟩
def bz (s:Bytes) (i:Nat):Nat:=(s.getD i 0).toNat
def sub (s:Bytes) (a b:Nat):Bytes:=(s.drop a).take (b - a)
def letterB (c:Nat):Bool:=decide (97≤c) && decide (c≤122)
def digitB (c:Nat):Bool:=decide (48≤c) && decide (c≤57)
def blankB (c:Nat):Bool:=decide (c=9) || decide (c=10) || decide (c=13) || decide (c=32)
def idB (c:Nat):Bool:=letterB c || digitB c || decide (c=95)
def kws:List Bytes:=[[114,101,99,111,114,100],[112,114,111,99],[118,97,114],[105,102],[101,108,115,101],[119,104,105,108,101],[102,111,114],[116,111],[114,101,116,117,114,110],[97,115,115,101,114,116],[97,110,100],[111,114],[110,111,116],[116,114,117,101],[102,97,108,115,101],[105,110,116],[98,111,111,108],[108,101,110]]
def sy2:List Bytes:=[[61,61],[33,61],[60,61],[62,61]]
def sy1:List Bytes:=[[60],[62],[61],[43],[45],[42],[47],[37],[40],[41],[123],[125],[91],[93],[44],[59],[58],[46]]
def hasB (l:List Bytes) (s:Bytes):Bool:=l.any fun x=>decide (x=s)
def kwB (s:Bytes):Bool:=hasB kws s
def symM (s:Bytes) (at_:Nat):Nat :=
 if decide (at_+2≤s.length) && hasB sy2 (sub s at_ (at_+2)) then 2 else if hasB sy1 (sub s at_ (at_+1)) then 1 else 0
def beginsM (s:Bytes) (at_:Nat):Bool:=letterB (bz s at_) || digitB (bz s at_) || decide (0 < symM s at_)
def runM (p:Nat→Bool):Bytes→Nat→Nat→Nat
 | _,0,a=>a
 | s,f+1,a=>if decide (a < s.length) && p a then runM p s f (a+1) else a
def skipM (s:Bytes):Nat→Nat→Nat
 | 0,a=>a
 | f+1,a=>if decide (a < s.length) && (blankB (bz s a) || decide (bz s a=35)) then (if bz s a=35 then skipM s f (runM (fun i => !decide (bz s i=10)) s s.length a) else skipM s f (a+1)) else a
def tokenM (s:Bytes) (a:Nat):Nat × Nat :=
 if letterB (bz s a) then
  (if kwB (sub s a (runM (fun i=>idB (bz s i)) s s.length a)) then 1 else 0,runM (fun i=>idB (bz s i)) s s.length a)
 else if digitB (bz s a) then (2,runM (fun i=>digitB (bz s i)) s s.length a)
 else if 0 < symM s a then (3,a+symM s a)
 else (4,runM (fun i => !blankB (bz s i) && !decide (bz s i=35) && !beginsM s i) s s.length a)
structure Tok where
 kind:Nat
 from_:Nat
 at_:Nat
 end_:Nat
deriving DecidableEq
def scanM (s:Bytes):Nat→Nat→List Tok
 | 0,_=>[]
 | f+1,from_ =>
  let a:=skipM s (s.length+1) from_
  if s.length≤a then [⟨5,from_,a,a⟩] else ⟨(tokenM s a).1,from_,a,(tokenM s a).2⟩ :: scanM s f (tokenM s a).2
def scanAll (s:Bytes):List Tok:=scanM s (s.length+1) 0
def numM:Bytes→Nat→Option Nat
 | [],n=>some n
 | c :: r,n=>if digitB c.toNat then numM r (10 * n+(c.toNat - 48)) else none
def numberM (s:Bytes):Option Nat:=if s.length < 1∨9 < s.length then none else numM s 0
def nameM (s:Bytes):Bool:=decide (1≤s.length) && decide (s.length≤16) && letterB (bz s 0) && !kwB s && decide ((tokenM s 0).2=s.length)
section
variable {p:Nat→Bool} {s:Bytes}
theorem runM_eq:∀ (f a0 a:Nat),a0≤a→a≤s.length→(∀ j,a0≤j→j < a→p j=true)→(a < s.length→p a=false)→s.length≤f+a0→runM p s f a0=a:=by
 intro f
 induction f with
 | zero =>
  intro a0 a h1 h2 _ _ h5
  have:a0=a:=by omega
  subst this;rfl
 | succ f ih =>
  intro a0 a h1 h2 h3 h4 h5;unfold runM
  by_cases h:a0=a
  ·subst h
   by_cases hl:a0 < s.length
   ·rw[h4 hl];simp
   ·simp[hl]
  ·have hp:=h3 a0 (Nat.le_refl _) (by omega)
   rw[hp,decide_eq_true (by omega:a0 < s.length),Bool.and_true,if_pos rfl];exact ih (a0+1) a (by omega) h2 (fun j hj hj2=>h3 j (by omega) hj2) h4 (by omega)
theorem runM_spec:∀ (f a0:Nat),a0≤s.length→s.length≤f+a0 →
 a0≤runM p s f a0∧runM p s f a0≤s.length∧(∀ j,a0≤j→j < runM p s f a0→p j=true)∧(runM p s f a0 < s.length→p (runM p s f a0)=false):=by
 intro f
 induction f with
 | zero =>
  intro a0 h1 h2
  have:a0=s.length:=by omega
  subst this;exact⟨Nat.le_refl _,Nat.le_refl _,fun j h3 h4=>by simp only[runM]at h4;omega,fun h3=>by simp only[runM]at h3;omega⟩
 | succ f ih =>
  intro a0 h1 h2;unfold runM
  by_cases h:(decide (a0 < s.length) && p a0)=true
  ·rw[if_pos h]
   simp at h;obtain⟨i1,i2,i3,i4⟩:=ih (a0+1) (by omega) (by omega);refine⟨by omega,i2,fun j h3 h4=>?_,i4⟩
   by_cases hj:j=a0
   ·subst hj;exact h.2
   ·exact i3 j (by omega) h4
  ·rw[if_neg h]
   refine⟨Nat.le_refl _,h1,fun j h3 h4=>by omega,fun h3=>?_⟩;simp at h;exact h h3
theorem runM_lt {a:Nat} (h:a < s.length) (hp:p a=true):a < runM p s s.length a:=by
 obtain⟨i1,i2,i3,i4⟩:=runM_spec (p:=p) (s:=s) s.length a (by omega) (by omega)
 rcases Nat.lt_or_ge a (runM p s s.length a) with h1 | h1
 ·exact h1
 ·have:runM p s s.length a=a:=by omega
  rw[this]at i4;rw[i4 h]at hp
  cases hp
theorem skipM_spec:∀ (f a:Nat),a≤s.length→s.length < f+a→a≤skipM s f a∧skipM s f a≤s.length∧(skipM s f a < s.length→blankB (bz s (skipM s f a))=false∧bz s (skipM s f a)≠35):=by
 intro f
 induction f with
 | zero=>intro a h1 h2;omega
 | succ f ih =>
  intro a h1 h2;unfold skipM
  by_cases h:(decide (a < s.length) && (blankB (bz s a) || decide (bz s a=35)))=true
  ·rw[if_pos h]
   simp at h
   by_cases h35:bz s a=35
   ·rw[if_pos h35]
    have hr:=runM_lt (p:=fun i => !decide (bz s i=10)) h.1 (by simp[h35]);have hr2:=(runM_spec (p:=fun i => !decide (bz s i=10)) (s:=s) s.length a h1 (by omega)).2.1;have:=ih _ hr2 (by omega);exact⟨by omega,this.2⟩
   ·rw[if_neg h35]
    have:=ih (a+1) (by omega) (by omega);exact⟨by omega,this.2⟩
  ·rw[if_neg h]
   refine⟨Nat.le_refl _,h1,fun h3=>?_⟩;simp[h3]at h;exact h
theorem symM_le (a:Nat):symM s a≤2:=by unfold symM;split <;>(try split) <;> omega
theorem symM_end {a:Nat} (h:a < s.length):a+symM s a≤s.length:=by
 unfold symM;split
 ·rename_i h1
  simp at h1;omega
 ·split <;> omega
theorem tokenM_spec {a:Nat} (h:a < s.length) (hb:blankB (bz s a)=false) (h35:bz s a≠35):a < (tokenM s a).2∧(tokenM s a).2≤s.length∧(tokenM s a).1≤4:=by
 have hle:=fun p=>(runM_spec (p:=p) (s:=s) s.length a (by omega) (by omega)).2.1
 unfold tokenM
 by_cases h1:letterB (bz s a)=true
 ·rw[if_pos h1]
  refine⟨runM_lt h (by simp[idB,h1]),hle _,?_⟩;simp only
  split <;> omega
 ·rw[if_neg h1]
  by_cases h2:digitB (bz s a)=true
  ·rw[if_pos h2]
   exact⟨runM_lt h h2,hle _,by simp⟩
  ·rw[if_neg h2]
   by_cases h3:0 < symM s a
   ·rw[if_pos h3]
    exact⟨by simp only;omega,symM_end h,by simp⟩
   ·rw[if_neg h3]
    refine⟨runM_lt h ?_,hle _,by simp⟩;simp[hb,h35,beginsM,h1,h2,h3]
end
end Go.Proofs.YtoepemlnlpamlaaGreat
namespace Go.Proofs.YtoepemlnlpamlaaGreat
set_option maxRecDepth 100000
set_option maxHeartbeats 4000000
inductive Tree where
 | node (k:Int) (t:ByteArray) (a e:Int) (kids:List Tree)
def Tree.kind:Tree→Int | .node k _ _ _ _=>k
def Tree.text:Tree→ByteArray | .node _ t _ _ _=>t
def Tree.at_:Tree→Int | .node _ _ a _ _=>a
def Tree.end_:Tree→Int | .node _ _ _ e _=>e
def Tree.kids:Tree→List Tree | .node _ _ _ _ l=>l
structure Dg where
 code:Int
 at_:Int
 end_:Int
 text:ByteArray
structure PS where
 k:Nat
 last:Nat
 ds:List Dg
section
variable (s:Bytes) (l:List Tok)
def tokD:Tok:=⟨5,0,0,0⟩
def tkM (k:Nat):Tok:=l.getD k tokD
def wordT (t:Tok):Bytes:=sub s t.at_ t.end_
def wordM (k:Nat):Bytes:=wordT s (tkM l k)
def kindM (p:PS):Nat:=(tkM l p.k).kind
def behindM (p:PS):Bytes:=if p.k+1 < l.length then wordM s l (p.k+1) else []
def readM (p:PS):PS:=⟨p.k+1,(tkM l p.k).end_,p.ds⟩
def repM (p:PS) (code:Int) (text:Bytes):PS :=
 match p.ds.getLast? with
 | some d=>if d.at_=((tkM l p.k).at_:Int) then p else { p with ds:=p.ds ++ [⟨code,(tkM l p.k).at_,(tkM l p.k).end_,mkS text⟩] }
 | none => { p with ds:=p.ds ++ [⟨code,(tkM l p.k).at_,(tkM l p.k).end_,mkS text⟩] }
def isM (p:PS) (w:Bytes):Bool:=decide (kindM l p≠5) && decide (wordM s l p.k=w)
def acceptM (p:PS) (w:Bytes):PS:=if isM s l p w then readM l p else p
def expectM (p:PS) (w:Bytes):PS:=if isM s l p w then readM l p else repM l p 4 w
def nameT (p:PS):Bytes:=if kindM l p=0 then wordM s l p.k else []
def nameP (p:PS):PS:=if kindM l p=0 then readM l p else repM l p 4 [110,97,109,101]
def digitsM:Bytes→Bytes
 | 48 :: c :: r=>digitsM (c :: r)
 | x=>x
def nodeAt (p:PS) (first:Nat) (kids:List Tree):Int :=
 let a:Int:=if first < p.k then ((tkM l first).at_:Int) else (p.last:Int)
 match kids with
 | []=>a
 | t :: _=>if t.at_ < a then t.at_ else a
def nodeM (p:PS) (first:Nat) (kind:Int) (text:Bytes) (kids:List Tree):Tree:=.node kind (mkS text) (nodeAt l p first kids) p.last kids
def typM (p:PS):Tree × PS :=
 if isM s l p [98,111,111,108] then (nodeM l (readM l p) p.k 9 [98,111,111,108] [],readM l p)
 else if isM s l p [105,110,116] then
  let p1:=readM l p
  if isM s l p1 [91] then
   let p2:=readM l p1
   let p4:=if kindM l p2=2 then expectM s l (readM l p2) [93] else expectM s l (repM l p2 4 [110,117,109,98,101,114]) [93]
   (nodeM l p4 p.k 10 (if kindM l p2=2 then digitsM (wordM s l p2.k) else []) [],p4)
  else (nodeM l p1 p.k 9 [105,110,116] [],p1)
 else if kindM l p=0 then (nodeM l (readM l p) p.k 9 (wordM s l p.k) [],readM l p)
 else (nodeM l (repM l p 4 [116,121,112,101]) p.k 1 [] [],repM l p 4 [116,121,112,101])
def optM (p:PS):Tree × PS:=if isM s l p [58] then typM s l (readM l p) else (nodeM l p p.k 0 [] [],p)
def fieldM (p:PS):Tree × PS :=
 let p1:=expectM s l (nameP l p) [58]
 if isM s l p1 [105,110,116] || isM s l p1 [98,111,111,108] then
  (nodeM l (readM l p1) p.k 4 (nameT s l p) [nodeM l (readM l p1) p1.k 9 (wordM s l p1.k) []],readM l p1)
 else
  let p2:=repM l p1 4 [116,121,112,101]
  (nodeM l p2 p.k 4 (nameT s l p) [nodeM l p2 p1.k 1 [] []],p2)
def fieldsM:Nat→PS→List Tree→Option (List Tree × PS)
 | 0,_,_=>none
 | f+1,p,kids=>if isM s l p [44] then fieldsM f (fieldM s l (readM l p)).2 (kids ++ [(fieldM s l (readM l p)).1]) else some (kids,p)
def recordM (f:Nat) (p:PS):Option (Tree × PS) :=
 let p1:=nameP l (readM l p)
 let p2:=expectM s l p1 [123]
 match fieldsM s l f (fieldM s l p2).2 [(fieldM s l p2).1] with
 | none=>none
 | some (kids,p3)=>some (nodeM l (expectM s l p3 [125]) p.k 3 (nameT s l (readM l p)) kids,expectM s l p3 [125])
def paramM (p:PS):Tree × PS :=
 let p1:=acceptM s l p [118,97,114]
 let r:=optM s l (nameP l p1)
 (nodeM l r.2 p.k (if isM s l p [118,97,114] then 8 else 7) (nameT s l p1) [r.1],r.2)
def paramsL:Nat→PS→List Tree→Option (List Tree × PS)
 | 0,_,_=>none
 | f+1,p,kids=>if isM s l p [44] then paramsL f (paramM s l (readM l p)).2 (kids ++ [(paramM s l (readM l p)).1]) else some (kids,p)
def paramsM (f:Nat) (p:PS):Option (Tree × PS) :=
 let p1:=expectM s l p [40]
 match (if isM s l p1 [41] then some ([],p1) else paramsL s l f (paramM s l p1).2 [(paramM s l p1).1]) with
 | none=>none
 | some (kids,p2)=>some (nodeM l (expectM s l p2 [41]) p.k 6 [] kids,expectM s l p2 [41])
def varM (p:PS):Tree × PS:=(nodeM l (nameP l p) p.k 20 (nameT s l p) [],nameP l p)
def stopsM (p:PS):Bool:=decide (kindM l p=5) || isM s l p [125] || isM s l p [112,114,111,99] || isM s l p [114,101,99,111,114,100]
def beginsW:List Bytes:=[[118,97,114],[105,102],[119,104,105,108,101],[102,111,114],[114,101,116,117,114,110],[97,115,115,101,114,116]]
def beginsP (p:PS):Bool:=decide (kindM l p=1) && hasB beginsW (wordM s l p.k)
def skipL (first:Nat):Nat→PS→Option PS
 | 0,_=>none
 | f+1,p =>
  if !stopsM s l p && (decide (p.k=first) || !beginsP s l p) then
   (if wordM s l p.k = [59] then some (readM l p) else skipL first f (readM l p))
  else some p
def skippedM (f:Nat) (p:PS):Option (Tree × PS) :=
 match skipL s l p.k f (repM l p 6 []) with
 | none=>none
 | some p1=>some (nodeM l p1 p.k 1 [] [],p1)
def opsM (lv:Nat):List Bytes :=
 if lv=1 then [[111,114]] else if lv=2 then [[97,110,100]] else if lv=4 then [[61,61],[33,61],[60],[60,61],[62],[62,61]] else if lv=5 then [[43],[45]] else if lv=6 then [[42],[47],[37]] else []
def operM (p:PS) (lv:Nat):Bool:=decide (kindM l p≠5) && hasB (opsM lv) (wordM s l p.k)
def primM (p:PS):Bool:=decide (kindM l p=0) || decide (kindM l p=2) || isM s l p [116,114,117,101] || isM s l p [102,97,108,115,101] || isM s l p [108,101,110] || isM s l p [40] || isM s l p [91]
inductive Fn where
 | expr (lv:Nat)
 | exprL (lv first:Nat) (x:Tree)
 | operand
 | args
 | argsL (kids:List Tree)
 | place
 | stmt
 | block
 | blockL (kids:List Tree)
 | branch
def one (r:Option (List Tree × PS)) (f:Tree→PS→Option (List Tree × PS)):Option (List Tree × PS) :=
 match r with
 | some ([x],p)=>f x p
 | _=>none
def many (r:Option (List Tree × PS)) (f:List Tree→PS→Option (List Tree × PS)):Option (List Tree × PS) :=
 match r with
 | some (x,p)=>f x p
 | none=>none
def parM:Nat→Fn→PS→Option (List Tree × PS)
 | 0,_,_=>none
 | f+1,.expr lv,p =>
  if lv=3 then
   (if isM s l p [110,111,116] then one (parM f (.expr 3) (readM l p)) fun x q=>some ([nodeM l q p.k 28 [110,111,116] [x]],q) else parM f (.expr 4) p)
  else if lv=7 then
   (if isM s l p [45] then one (parM f (.expr 7) (readM l p)) fun x q=>some ([nodeM l q p.k 28 [45] [x]],q) else parM f .operand p)
  else one (parM f (.expr (lv+1)) p) fun x q=>parM f (.exprL lv p.k x) q
 | f+1,.exprL lv first x,p =>
  if operM s l p lv then
   one (parM f (.expr (lv+1)) (readM l p)) fun y q =>
    let z:=nodeM l q first 29 (wordM s l p.k) [x,y]
    if lv=4 then some ([z],q) else parM f (.exprL lv first z) q
  else some ([x],p)
 | f+1,.operand,p =>
  if kindM l p=2 then some ([nodeM l (readM l p) p.k 24 (digitsM (wordM s l p.k)) []],readM l p)
  else if isM s l p [116,114,117,101] || isM s l p [102,97,108,115,101] then some ([nodeM l (readM l p) p.k 25 (wordM s l p.k) []],readM l p)
  else if decide (kindM l p=0) && decide (behindM s l p = [40]) then
   many (parM f .args (readM l p)) fun kids q=>some ([nodeM l q p.k 27 (wordM s l p.k) kids],q)
  else if kindM l p=0 then parM f .place p
  else if isM s l p [91] then
   one (parM f (.expr 1) (readM l p)) fun x q=>many (parM f (.argsL [x]) q) fun kids q2=>some ([nodeM l (expectM s l q2 [93]) p.k 26 [] kids],expectM s l q2 [93])
  else if isM s l p [108,101,110] then
   let p1:=expectM s l (readM l p) [40]
   let p2:=expectM s l (varM s l p1).2 [41]
   some ([nodeM l p2 p.k 23 [] [(varM s l p1).1]],p2)
  else if isM s l p [40] then one (parM f (.expr 1) (readM l p)) fun x q=>some ([x],expectM s l q [41])
  else some ([nodeM l (repM l p 5 []) p.k 1 [] []],repM l p 5 [])
 | f+1,.args,p =>
  let p1:=readM l p
  if isM s l p1 [41] then some ([],expectM s l p1 [41])
  else one (parM f (.expr 1) p1) fun x q=>many (parM f (.argsL [x]) q) fun kids q2=>some (kids,expectM s l q2 [41])
 | f+1,.argsL kids,p =>
  if isM s l p [44] then one (parM f (.expr 1) (readM l p)) fun x q=>parM f (.argsL (kids ++ [x])) q else some (kids,p)
 | f+1,.place,p =>
  let x:=(varM s l p).1
  let p1:=(varM s l p).2
  if isM s l p1 [91] then one (parM f (.expr 1) (readM l p1)) fun y q=>some ([nodeM l (expectM s l q [93]) p.k 21 [] [x,y]],expectM s l q [93])
  else if isM s l p1 [46] then some ([nodeM l (nameP l (readM l p1)) p.k 22 (nameT s l (readM l p1)) [x]],nameP l (readM l p1))
  else some ([x],p1)
 | f+1,.stmt,p =>
  if isM s l p [118,97,114] then
   let p1:=readM l p
   let r:=optM s l (nameP l p1)
   one (parM f (.expr 1) (expectM s l r.2 [61])) fun x q=>some ([nodeM l (expectM s l q [59]) p.k 12 (nameT s l p1) [r.1,x]],expectM s l q [59])
  else if isM s l p [105,102] then parM f .branch p
  else if isM s l p [119,104,105,108,101] then
   one (parM f (.expr 1) (readM l p)) fun c q=>one (parM f .block q) fun b q2=>some ([nodeM l q2 p.k 15 [] [c,b]],q2)
  else if isM s l p [102,111,114] then
   let p1:=readM l p
   one (parM f (.expr 1) (expectM s l (nameP l p1) [61])) fun x q=>one (parM f (.expr 1) (expectM s l q [116,111])) fun y q2=>one (parM f .block q2) fun b q3=>some ([nodeM l q3 p.k 16 (nameT s l p1) [x,y,b]],q3)
  else if isM s l p [114,101,116,117,114,110] then
   let p1:=readM l p
   if primM s l p1 || isM s l p1 [110,111,116] || isM s l p1 [45] then one (parM f (.expr 1) p1) fun x q=>some ([nodeM l (expectM s l q [59]) p.k 17 [] [x]],expectM s l q [59])
   else some ([nodeM l (expectM s l p1 [59]) p.k 17 [] [nodeM l p1 p1.k 0 [] []]],expectM s l p1 [59])
  else if isM s l p [97,115,115,101,114,116] then
   one (parM f (.expr 1) (readM l p)) fun x q=>some ([nodeM l (expectM s l q [59]) p.k 18 [] [x]],expectM s l q [59])
  else if decide (kindM l p=0) && decide (behindM s l p = [40]) then
   many (parM f .args (readM l p)) fun kids q=>some ([nodeM l (expectM s l q [59]) p.k 19 (wordM s l p.k) kids],expectM s l q [59])
  else if kindM l p=0 then
   one (parM f .place p) fun x q=>one (parM f (.expr 1) (expectM s l q [61])) fun y q2=>some ([nodeM l (expectM s l q2 [59]) p.k 13 [] [x,y]],expectM s l q2 [59])
  else match skippedM s l f p with
   | none=>none
   | some (x,q)=>some ([x],q)
 | f+1,.block,p =>
  if isM s l p [123] then
   many (parM f (.blockL []) (readM l p)) fun kids q=>some ([nodeM l (expectM s l q [125]) p.k 11 [] kids],expectM s l q [125])
  else some ([nodeM l (repM l p 4 [123]) p.k 11 [] []],repM l p 4 [123])
 | f+1,.blockL kids,p =>
  if stopsM s l p then some (kids,p) else one (parM f .stmt p) fun x q=>parM f (.blockL (kids ++ [x])) q
 | f+1,.branch,p =>
  one (parM f (.expr 1) (readM l p)) fun c q=>one (parM f .block q) fun b q2 =>
   if isM s l q2 [101,108,115,101] then
    (if isM s l (readM l q2) [105,102] then one (parM f .branch (readM l q2)) fun o q3=>some ([nodeM l q3 p.k 14 [] [c,b,o]],q3)
    else one (parM f .block (readM l q2)) fun o q3=>some ([nodeM l q3 p.k 14 [] [c,b,o]],q3))
   else some ([nodeM l q2 p.k 14 [] [c,b,nodeM l q2 q2.k 0 [] []]],q2)
def procM (f:Nat) (p:PS):Option (Tree × PS) :=
 let p1:=nameP l (readM l p)
 match paramsM s l f p1 with
 | none=>none
 | some (x,p2) =>
  let r:=optM s l p2
  match parM s l f .block r.2 with
  | some ([b],p3)=>some (nodeM l p3 p.k 5 (nameT s l (readM l p)) [x,r.1,b],p3)
  | _=>none
def noDecl:Nat→PS→Option PS
 | 0,_=>none
 | f+1,p=>if decide (kindM l p≠5) && !isM s l p [114,101,99,111,114,100] && !isM s l p [112,114,111,99] then noDecl f (readM l p) else some p
def progL:Nat→PS→List Tree→Option (List Tree × PS)
 | 0,_,_=>none
 | f+1,p,kids =>
  if kindM l p=5 then some (kids,p)
  else if isM s l p [114,101,99,111,114,100] then (match recordM s l f p with | none=>none | some (x,q)=>progL f q (kids ++ [x]))
  else if isM s l p [112,114,111,99] then (match procM s l f p with | none=>none | some (x,q)=>progL f q (kids ++ [x]))
  else match noDecl s l f (repM l p 7 []) with
   | none=>none
   | some q=>progL f q (kids ++ [nodeM l q p.k 1 [] []])
end
def startL (s:Bytes):List Tok:=(scanAll s).filter fun t=>decide (t.kind≠4)
def lexCode (s:Bytes) (t:Tok):Int :=
 if t.kind=4 then 1 else if t.kind=2∧(numberM (wordT s t)).isNone=true then 2 else if t.kind=0∧16 < (t.end_:Int) - t.at_ then 3 else 0
def lexicalM (s:Bytes):List Dg:=(scanAll s).filterMap fun t=>if 0 < lexCode s t then some ⟨lexCode s t,t.at_,t.end_,mkS []⟩ else none
def mergeM:List Dg→List Dg→List Dg
 | [],b=>b
 | a,[]=>a
 | x :: a,y :: b=>if x.at_≤y.at_ then x :: mergeM a (y :: b) else y :: mergeM (x :: a) b
termination_by a b=>a.length+b.length
def parseM (f:Nat) (s:Bytes):Option (Tree × List Dg) :=
 match progL s (startL s) f ⟨0,0,[]⟩ [] with
 | none=>none
 | some (kids,p)=>some (.node 2 (mkS []) 0 s.length kids,mergeM (lexicalM s) p.ds)
end Go.Proofs.YtoepemlnlpamlaaGreat
namespace Go.Proofs.YtoepemlnlpamlaaGreat
set_option maxRecDepth 100000
set_option maxHeartbeats 4000000
structure Dc where
 kind:Int
 name:ByteArray
 node:Int
 owner:Int
 deriving DecidableEq
abbrev Lay:=List (ByteArray × Int)
abbrev Scope:=List Lay
def lookL {K V:Type} [DecidableEq K]:List (K × V)→K→Option V
 | [],_=>none
 | x :: l,k=>if k=x.1 then some x.2 else lookL l k
def setL {K V:Type} [DecidableEq K]:List (K × V)→K→V→List (K × V)
 | [],k,v=>[(k,v)]
 | x :: l,k,v=>if k=x.1 then (k,v) :: l else x :: setL l k v
abbrev layM (l:Lay) (n:ByteArray):Option Int:=lookL l n
def findS:Scope→ByteArray→Option Int
 | [],_=>none
 | x :: s,n=>match layM x n with | some k=>some k | none=>findS s n
def allS (s:Scope):List Int:=s.flatMap fun l=>l.map (·.2)
def sortI (l:List Int):List Int:=l.mergeSort fun a b=>decide (a≤b)
def addTop (s:Scope) (l:Lay):Scope :=
 match s with
 | []=>[]
 | x :: s=>(l.foldl (fun a y=>setL a y.1 y.2) x) :: s
structure Glob where
 globals:Lay
 fields:Lay
 kinds:List (Int × Int)
mutual
def countM:Tree→Nat
 | .node _ _ _ _ kids=>1+countsM kids
def countsM:List Tree→Nat
 | []=>0
 | t :: ts=>countM t+countsM ts
end
def firstM (l:Lay) (n:ByteArray) (k:Int):Lay:=if (layM l n).isSome then l else setL l n k
def collectF:List Tree→Nat→Lay→Lay
 | [],_,l=>l
 | f :: fs,at_,l=>collectF fs (at_+countM f) (if f.kind=4 then firstM l f.text at_ else l)
def collectK:List Tree→Nat→Glob→Glob
 | [],_,g=>g
 | k :: ks,n,g=>collectK ks (n+countM k) ⟨firstM g.globals k.text n,collectF k.kids (n+1) g.fields,setL g.kinds (n:Int) k.kind⟩
def collectM (t:Tree):Glob:=collectK t.kids 1 ⟨[],[],[]⟩
structure RS where
 ds:List Dc
 uses:List Int
 vis:List (Int × List Int)
 probs:List (Int × Dg)
 next:Nat
 owner:Int
def sayM (r:RS) (code:Int) (n:Nat) (t:Tree):RS:={ r with probs:=r.probs ++ [((n:Int),⟨code,t.at_,t.end_,t.text⟩)] }
def declM (r:RS) (kind:Int) (n:Nat) (t:Tree):RS :=
 { r with ds:=r.ds ++ [⟨kind,t.text,n,if kind=0∨kind=2 then -1 else r.owner⟩],uses:=r.uses.set n (n:Int) }
def declareM (r:RS) (kind:Int) (n:Nat) (t:Tree) (already:Bool):RS:=if already then sayM r 9 n t else declM r kind n t
def variableM (G:Glob) (r:RS) (kind:Int) (n:Nat) (t:Tree) (s:Scope):RS × Scope :=
 if (findS s t.text).isSome || (layM G.globals t.text).isSome then (sayM r 9 n t,s) else (declM r kind n t,addTop s [(t.text,(n:Int))])
def useM (r:RS) (n:Nat) (t:Tree) (tow:Option Int):RS :=
 match tow with
 | none=>sayM r 8 n t
 | some k => { r with uses:=r.uses.set n k }
def kindAt (G:Glob) (k:Int):Int:=(lookL G.kinds k).getD 0
def isScalar (t:ByteArray):Bool:=decide (t=⟨#[105,110,116]⟩) || decide (t=⟨#[98,111,111,108]⟩)
mutual
def visitM (G:Glob) (inside:Bool):Tree→Scope→RS→RS × Scope
 | .node k x a e kids,s,r0 =>
  let t:Tree:=.node k x a e kids
  let n:=r0.next
  let r:RS:={ r0 with next:=n+1,vis:=if inside then setL r0.vis (n:Int) (sortI (allS s)) else r0.vis }
  let tow:=(layM G.globals x).getD 0
  if k=3 then visitsM G inside kids 0 kids.length s { declareM r 0 n t (decide (tow≠n)) with owner:=n }
  else if k=4 then visitsM G inside kids 0 kids.length s (declareM r 1 n t (decide ((layM G.fields x).getD 0≠n)))
  else if k=5 then
   let r1:RS:={ declareM r 2 n t (decide (tow≠n)) with owner:=n }
   let q:=visitsM G false kids 0 2 [[]] r1
   ((visitsM G true kids 2 1 ([] :: q.2) q.1).1,s)
  else if k=7∨k=8 then
   let q:=variableM G r 3 n t s
   visitsM G inside kids 0 kids.length q.2 q.1
  else if k=11 then
   let q:=visitsM G inside kids 0 kids.length ([] :: s) r
   (q.1,q.2.tail)
  else if k=12 then
   let q:=variableM G r 4 n t ([] :: s)
   let q2:=visitsM G inside kids 0 2 s q.1
   (q2.1,addTop q2.2 (q.2.headD []))
  else if k=16 then
   let q:=variableM G r 5 n t ([] :: s)
   let q2:=visitsM G inside kids 0 2 s q.1
   let q3:=visitsM G inside kids 2 1 (q.2.headD [] :: q2.2) q2.1
   (q3.1,q3.2.tail)
  else
   let r1:=if k=20 then useM r n t (findS s x)
    else if k=22 then useM r n t (layM G.fields x)
    else if k=27 then useM r n t (layM G.globals x)
    else if k=19 then useM r n t ((layM G.globals x).filter fun j=>decide (kindAt G j=5))
    else if k=9∧isScalar x=false then useM r n t ((layM G.globals x).filter fun j=>decide (kindAt G j=3))
    else r
   visitsM G inside kids 0 kids.length s r1
def visitsM (G:Glob) (inside:Bool):List Tree→Nat→Nat→Scope→RS→RS × Scope
 | [],_,_,s,r=>(r,s)
 | _ :: ts,from_+1,n,s,r=>visitsM G inside ts from_ n s r
 | _ :: _,0,0,s,r=>(r,s)
 | t :: ts,0,n+1,s,r =>
  let q:=visitM G inside t s r
  visitsM G inside ts 0 n q.2 q.1
end
def idxL:List Dc→Nat→List (Int × Int)→List (Int × Int)
 | [],_,l=>l
 | d :: ds,i,l=>idxL ds (i+1) (setL l d.node (i:Int))
def toIdx (ds:List Dc) (u:Int):Int:=(lookL (idxL ds 0 [(-1,-1)]) u).getD 0
def resolveM (t:Tree):RS :=
 let r:=(visitM (collectM t) false t [] ⟨[],List.replicate (countM t) (-1),[],[],0,0⟩).1
 { r with uses:=r.uses.map (toIdx r.ds),vis:=r.vis.map fun x=>(x.1,x.2.map (toIdx r.ds)) }
mutual
def freeM:Tree→List (List ByteArray)→List ByteArray→List ByteArray
 | .node k x _ _ kids,s,out =>
  freesM k x kids 0 ([] :: s) (if k=20 then (if (s.any fun l=>l.contains x) || out.contains x then out else out ++ [x]) else out)
def freesM (k:Int) (x:ByteArray):List Tree→Nat→List (List ByteArray)→List ByteArray→List ByteArray
 | [],_,_,out=>out
 | t :: ts,i,s,out =>
  freesM k x ts (i+1) (if t.kind=12 then (match s with | []=>[] | l :: s=>(l ++ [t.text]) :: s) else s) (freeM t (if k=16∧i=2 then [x] :: s else s) out)
end
end Go.Proofs.YtoepemlnlpamlaaGreat
namespace Go.Proofs.YtoepemlnlpamlaaGreat
set_option maxRecDepth 100000
set_option maxHeartbeats 4000000
theorem sA {α:Type}{l:List α}{i:Nat}{a:α}:l.toArray.setIfInBounds i a=(l.set i a).toArray:=by simp
theorem sZ {α:Type}{x:α}{l:List α}{a:α}:(x::l).set 0 a=a::l:=rfl
theorem sC {α:Type}{x:α}{l:List α}{n:Nat}{a:α}:(x::l).set (n+1) a=x::l.set n a:=rfl
theorem kH {p:Prop}(h:p):Go.RowKit.Hid p:=Lib.hid h
open Go.RowKit
theorem ret_bool {a b:Bool} (h:a=b):Ending.returned (.bool a) = .returned (.bool b):=by rw[h]
theorem ret_int {k:IntKind} {a b:Int} (h:a=b):Ending.returned (.int k a) = .returned (.int k b):=by rw[h]
theorem below_drewN {B:Nat} {a w:World} (h:Below B a w) (n:Nat):Below B a (w.drewN n):=⟨h.os,h.tape,h.output,h.size,h.block⟩
end Go.Proofs.YtoepemlnlpamlaaGreat
namespace Go.Proofs.YtoepemlnlpamlaaGreat
set_option maxRecDepth 100000
set_option maxHeartbeats 4000000
open Go.RowKit
def RowAt {α:Type} (size:Nat) (cells:α→List Value) (w:World) (B:Nat) (A:Option Addr) (l:List α):Prop :=
 ∀ k c,l[k]? = some c→∃ b off,A=some ⟨b,off,none⟩∧b < B∧∀ j v,(cells c)[j]? = some v→w.cell? ⟨b,off+k * size+j,none⟩=some v
theorem RowAt.below {α:Type} {size:Nat} {cells:α→List Value} {w w':World} {B B':Nat} {A:Option Addr} {l:List α} (h:RowAt size cells w B A l) (hb:Below B' w w') (hB:B≤B') :
 RowAt size cells w' B A l:=by
 intro k c hk;obtain⟨b,off,hA,hlt,hc⟩:=h k c hk;exact⟨b,off,hA,hlt,fun j v hj=>(hb.cell (p:=⟨b,_,none⟩) (by show b < B';omega)).trans (hc j v hj)⟩
theorem RowAt.mono {α:Type} {size:Nat} {cells:α→List Value} {w:World} {B B':Nat} {A:Option Addr} {l:List α} (h:RowAt size cells w B A l) (hB:B≤B'):RowAt size cells w B' A l:=by
 intro k c hk;obtain⟨b,off,hA,hlt,hc⟩:=h k c hk;exact⟨b,off,hA,by omega,hc⟩
def Blk (w:World) (g:Nat) (t:TypeId) (cs:Array Value):Prop:=w.heap[g]? = some (.cells cs t (0,0))
section
variable {w w':World} {g:Nat} {t:TypeId} {cs:Array Value}
theorem Blk.lt (h:Blk w g t cs):g < w.heap.size:=(Array.getElem?_eq_some_iff.1 h).1
theorem Blk.cell (h:Blk w g t cs) (i:Nat):w.cell? ⟨g,i,none⟩=cs[i]? := cell_of_row w g i cs t (0,0) h
theorem Blk.frozen (h:Blk w g t cs) (i:Nat):w.frozen? ⟨g,i,none⟩=false:=by
 unfold Blk at h;simp[World.frozen?,h]
theorem Blk.keep (h:Blk w g t cs) (hk:w'.heap[g]? = w.heap[g]?):Blk w' g t cs:=hk.trans h
theorem Blk.new (w:World) (t:TypeId) (cs:Array Value):Blk (w.alloc (.cells cs t)) w.heap.size t cs:=heap_alloc_new w _
theorem Blk.drew (h:Blk w g t cs):Blk w.drew g t cs:=h
theorem Blk.drewN (h:Blk w g t cs) (n:Nat):Blk (w.drewN n) g t cs:=h
theorem Blk.alloc (h:Blk w g t cs) (o:Obj):Blk (w.alloc o) g t cs:=h.keep (Below.heap_alloc w o g h.lt)
theorem Blk.set_ (h:Blk w g t cs) (i:Nat) (u:Value):Blk (w.setCell ⟨g,i,none⟩ u) g t (cs.setIfInBounds i u):=by
 unfold Blk at h ⊢;simp[World.setCell,Array.getElem?_modify,h]
theorem Blk.far (h:Blk w g t cs) {p:Addr} (hp:g≠p.block) (u:Value):Blk (w.setCell p u) g t cs:=h.keep (Below.heap_setCell w p u g hp)
theorem Blk.below {B:Nat} (h:Blk w g t cs) (hb:Below B w w') (hg:g < B):Blk w' g t cs:=h.keep (hb.block g hg)
theorem Blk.grown {row:Option Nat} (h:Blk w g t cs) (hb:w.grownBy w' row) (hg:some g≠row):Blk w' g t cs:=h.keep (hb.block g h.lt hg)
end
def OwnS (w:World) (base:Nat) (e:TypeId) (size:Nat) (v:Value) (n:Nat) (xs:List Value):Prop :=
 xs.length=n * size∧((v = .slice none 0 0∧n=0) ∨
  ∃ g off cap cur,v = .slice (some ⟨g,off,none⟩) n cap∧base≤g∧w.heap[g]? = some (.cells cur e (0,0))∧n≤cap∧cap≤maxLen∧off+cap * size≤cur.size∧(cur.toList.drop off).take (n * size)=xs)
section
variable {w w':World} {base:Nat} {e:TypeId} {size:Nat} {v:Value} {n:Nat} {xs:List Value}
theorem OwnS.nil (w:World) (base:Nat) (e:TypeId) (size:Nat):OwnS w base e size (.slice none 0 0) 0 []:=⟨by simp,.inl ⟨rfl,rfl⟩⟩
theorem OwnS.block {g:Nat} {cur:Array Value} {n:Nat} (hb:base≤g) (hg:w.heap[g]? = some (.cells cur e (0,0))) (hm:n≤maxLen) (hs:cur.size=n * size):OwnS w base e size (.slice (some ⟨g,0,none⟩) n n) n cur.toList :=
 ⟨by simpa using hs,.inr ⟨g,0,n,cur,rfl,hb,hg,Nat.le_refl _,hm,by omega,by rw[List.drop_zero,List.take_of_length_le (by simp;omega)]⟩⟩
theorem OwnS.lt (h:OwnS w base e size v n xs):∀ k,v.ownBlock=some k→base≤k∧k < w.heap.size:=by
 intro k hk
 rcases h.2 with ⟨rfl,_⟩ | ⟨g,off,cap,cur,rfl,hb,hg,_⟩
 ·simp[Value.ownBlock]at hk
 ·simp[Value.ownBlock]at hk
  subst hk;exact⟨hb,(Array.getElem?_eq_some_iff.1 hg).1⟩
theorem OwnS.form (h:OwnS w base e size v n xs) (hn:0 < n):∃ g off cap,v = .slice (some ⟨g,off,none⟩) n cap∧n≤cap∧cap≤maxLen∧base≤g∧g < w.heap.size∧∀ j u,xs[j]? = some u→w.cell? ⟨g,off+j,none⟩=some u:=by
 rcases h.2 with ⟨_,h0⟩ | ⟨g,off,cap,cur,hv,hb,hg,hn,hm,hs,ht⟩
 ·omega
 ·refine⟨g,off,cap,hv,hn,hm,hb,(Array.getElem?_eq_some_iff.1 hg).1,fun j u hu=>?_⟩
  rw[cell_of_row w g (off+j) cur e (0,0) hg];rw[← ht,List.getElem?_take]at hu;split at hu
  ·rw[List.getElem?_drop]at hu
   simpa using hu
  ·cases hu
theorem OwnS.shape (h:OwnS w base e size v n xs):∃ A c,v = .slice A n c∧n≤c∧c≤maxLen:=by
 rcases h.2 with ⟨rfl,rfl⟩ | ⟨g,off,cap,cur,hv,hb,hg,hn,hm,hs,ht⟩
 ·exact⟨none,0,rfl,Nat.le_refl _,by simp[maxLen]⟩
 ·exact⟨_,_,hv,hn,hm⟩
theorem OwnS.of_block (h:OwnS w base e size v n xs) (hk:∀ g,v.ownBlock=some g→w'.heap[g]? = w.heap[g]?):OwnS w' base e size v n xs:=by
 refine⟨h.1,?_⟩
 rcases h.2 with h0 | ⟨g,off,cap,cur,hv,hb,hg,rest⟩
 ·exact .inl h0
 ·exact .inr ⟨g,off,cap,cur,hv,hb,(hk g (by rw[hv];rfl)).trans hg,rest⟩
theorem OwnS.kept {row:Option Nat} (h:OwnS w base e size v n xs) (hg:w.grownBy w' row) (hne:v.ownBlock=none∨v.ownBlock≠row):OwnS w' base e size v n xs :=
 h.of_block fun g hv=>hg.block g (h.lt g hv).2 (by rcases hne with h0 | h0 <;> simp_all)
theorem OwnS.below {B:Nat} (h:OwnS w base e size v n xs) (hb:Below B w w') (hlt:∀ g,v.ownBlock=some g→g < B):OwnS w' base e size v n xs :=
 h.of_block fun g hv=>hb.block g (hlt g hv)
theorem OwnS.alloc (h:OwnS w base e size v n xs) (o:Obj):OwnS (w.alloc o) base e size v n xs :=
 h.of_block fun g hv=>Below.heap_alloc w o g (h.lt g hv).2
theorem OwnS.drew (h:OwnS w base e size v n xs):OwnS w.drew base e size v n xs:=h
theorem OwnS.setCell (h:OwnS w base e size v n xs) {p:Addr} (hp:v.ownBlock≠some p.block) (u:Value):OwnS (w.setCell p u) base e size v n xs :=
 h.of_block fun g hv=>Below.heap_setCell w p u g (fun e1=>hp (by rw[hv,e1]))
theorem OwnS.mono {base':Nat} (h:OwnS w base e size v n xs) (hb:base'≤base):OwnS w base' e size v n xs:=by
 refine⟨h.1,?_⟩
 rcases h.2 with h0 | ⟨g,off,cap,cur,hv,hb',rest⟩
 ·exact .inl h0
 ·exact .inr ⟨g,off,cap,cur,hv,by omega,rest⟩
theorem OwnS.rowAt {α:Type} {cells:α→List Value} {l:List α} (h:OwnS w base e size v n xs) {A:Option Addr} {c:Nat} (hv:v = .slice A n c) (hxs:xs=l.flatMap cells) (hl:∀ c ∈ l,(cells c).length=size) (hn:l.length=n) :
 RowAt size cells w w.heap.size A l:=by
 intro k x hk
 have hkn:k < n:=by rw[← hn];exact(List.getElem?_eq_some_iff.1 hk).1
 obtain⟨g,off,cap,hv',_,_,_,hlt,hc⟩:=h.form (by omega);rw[hv]at hv'
 cases hv'
 refine⟨g,off,rfl,hlt,fun j u hj=>?_⟩;rw[Nat.add_assoc];refine hc _ _ ?_;subst hxs;clear h hv hlt hc hkn hn
 induction l generalizing k with
 | nil=>simp at hk
 | cons y ys ih =>
  have hy:=hl y (by simp);have hjs:j < (cells x).length:=(List.getElem?_eq_some_iff.1 hj).1;rw[List.flatMap_cons]
  cases k with
  | zero =>
   simp at hk;subst hk;rw[List.getElem?_append_left (by omega),← hj];simp
  | succ k =>
   rw[List.getElem?_append_right (by rw[hy,Nat.succ_mul];omega),hy];have:=ih (fun c hc=>hl c (by simp[hc])) k (by simpa using hk);rw[← this]
   congr 1
   rw[Nat.succ_mul];omega
end
section
variable {P:Program} (w:World)
theorem run_append_room_off (t ty e:TypeId) (i:TypeInfo) (ht:P.underlying t=some (.slice e)) (hi:P.info? e=some i)
 (g off sLen sCap:Nat) (cur:Array Value) (hg:w.heap[g]? = some (.cells cur e (0,0)))
 (a:Addr) (m c:Nat) (news:List Value) (hl:news.length=m * i.size) (hnews:∀ j u,news[j]? = some u→w.cell? (a.add j)=some u) (h1:∀ u ∈ news,u.oneCell'=true)
 (hroom:sLen+m≤sCap) (hfit:off+sLen * i.size+news.length≤cur.size) :
 (Builtin.append_ #[t,t] ty #[.slice (some ⟨g,off,none⟩) sLen sCap,.slice (some a) m c]).run P w =
  .ok (.slice (some ⟨g,off,none⟩) (sLen+m) sCap) (w.setRow g (cur.toList.take (off+sLen * i.size) ++ news ++ cur.toList.drop (off+sLen * i.size+news.length)).toArray):=by
 have hf:=run_firstCells_some (P:=P) w i.size m a m c news hl hnews;have hst:=run_storeCells_at P g (off+sLen * i.size) e news 0 cur w hg (by simpa using hfit) h1;simp only[Nat.add_zero]at hst;simp[Builtin.append_,run_underlying ht,sizeOf,typeInfo,hi,Builtin.lenOf,hroom,hf,Addr.add_lit,hst]
theorem run_append_S (base:Nat) (t ty e:TypeId) (i:TypeInfo) (z:Value) (size bytes:Nat) (ht:P.underlying t=some (.slice e)) (hi:P.info? e=some i) (hz:i.zero=some z)
 (hsize:i.size=size) (hby:i.bytes=bytes) (hzs:z.cells.size=size)
 (v:Value) (n:Nat) (xs:List Value) (hown:OwnS w base e size v n xs)
 (a:Addr) (m c:Nat) (news:List Value) (hl:news.length=m * size) (hnews:∀ j u,news[j]? = some u→w.cell? (a.add j)=some u) (h1:∀ u ∈ news,u.oneCell'=true)
 (h63:n+m≤maxLen) (hbytes:(n+m) * bytes≤140737488355328) (hbase:base≤w.heap.size) :
 ∃ v' w',(Builtin.append_ #[t,t] ty #[v,.slice (some a) m c]).run P w = .ok v' w'∧OwnS w' base e size v' (n+m) (xs ++ news)∧w.grownBy w' v.ownBlock ∧
  (v'.ownBlock=v.ownBlock∨v'.ownBlock=some w.heap.size):=by
 subst hsize;subst hby
 have hsmall:n+m≤9223372036854775807:=by simp only[maxLen]at h63;omega
 have hlen:(xs ++ news).length=(n+m) * i.size:=by rw[List.length_append,hown.1,hl,Nat.add_mul]
 have grown:∀ (old:Nat),old < n+m→∀ (row:Option Nat),
  OwnS (w.drew.alloc (.cells (xs.toArray ++ news.toArray ++ Builtin.zeroCells z.cells (grownCap w (n+m) old e - (n+m))) e)) base e i.size
   (.slice (some ⟨w.heap.size,0,none⟩) (n+m) (grownCap w (n+m) old e)) (n+m) (xs ++ news) ∧
  w.grownBy (w.drew.alloc (.cells (xs.toArray ++ news.toArray ++ Builtin.zeroCells z.cells (grownCap w (n+m) old e - (n+m))) e)) row:=by
  intro old ho row;have hge:=grownCap_ge w (n+m) old e;have hcm:grownCap w (n+m) old e≤maxLen:=grownCap_le_maxLen w (n+m) old e h63;refine⟨⟨hlen,.inr ⟨w.heap.size,0,_,_,rfl,hbase,heap_alloc_new w.drew _,hge,hcm,?_,?_⟩⟩,⟨rfl,rfl,rfl,by simp,fun k hk _=>Below.heap_alloc w.drew _ k hk⟩⟩
  ·simp only[Array.size_append,List.size_toArray,size_zeroCells,hzs,hown.1,hl,← Nat.add_mul]
   rw[Nat.zero_add];exact Nat.mul_le_mul_right _ (by omega)
  ·simp only[Array.toList_append,List.append_assoc,List.drop_zero]
   rw[← List.append_assoc,← hlen];exact List.take_left
 rcases hown.2 with ⟨rfl,rfl⟩ | ⟨g,off,cap,cur,rfl,hbg,hg,hnc,hcm,hcs,htake⟩
 ·have hx:xs = []:=List.eq_nil_of_length_eq_zero (by simpa using hown.1)
  subst hx
  by_cases hm:m=0
  ·subst hm
   have hn:news = []:=List.eq_nil_of_length_eq_zero (by simpa using hl);subst hn;refine⟨.slice none 0 0,w,?_,OwnS.nil w base e i.size,⟨rfl,rfl,rfl,Nat.le_refl _,fun _ _ _=>rfl⟩,.inl rfl⟩;simp[Builtin.append_,run_underlying ht,sizeOf,typeInfo,hi,Builtin.lenOf,Builtin.firstCells,loadCells,loadCellsFrom]
  ·have hr:=run_append_nil (P:=P) w t ty e i z ht hi hz a m c news hl hnews (by omega) (by omega) (by have hb:=hbytes;simp only[Nat.zero_add]at hb;omega)
   have hgr:=grown 0 (by omega) (Value.ownBlock (.slice none 0 0));simp only[Nat.zero_add,List.nil_append,Array.empty_append]at hgr ⊢;exact⟨_,_,hr,hgr.1,hgr.2,.inr rfl⟩
 ·by_cases hroom:n+m≤cap
  ·have hfit:off+n * i.size+news.length≤cur.size:=by
    rw[hl];have h2:(n+m) * i.size≤cap * i.size:=Nat.mul_le_mul_right _ hroom;rw[Nat.add_mul]at h2;omega
   have hr:=run_append_room_off (P:=P) w t ty e i ht hi g off n cap cur hg a m c news hl hnews h1 hroom hfit;refine⟨_,_,hr,⟨hlen,.inr ⟨g,off,cap,_,rfl,hbg,setRow_heap w g cur _ e _ hg,hroom,hcm,?_,?_⟩⟩,⟨rfl,rfl,rfl,by simp,fun k _ hk=>setRow_other w g k _ (fun e=>hk (by simp[Value.ownBlock,e]))⟩,.inl rfl⟩
   ·simp only[List.size_toArray,List.length_append,List.length_take,List.length_drop,Array.length_toList]
    omega
   ·rw[← htake,Nat.add_mul,← hl]
    have hoff:off≤(cur.toList.take (off+n * i.size)).length:=by simp;omega
    rw[List.append_assoc,List.drop_append_of_le_length hoff,List.drop_take,Nat.add_sub_cancel_left]
    have hk:(List.take (n * i.size) (List.drop off cur.toList)).length=n * i.size:=by simp;omega
    rw[← List.append_assoc];exact List.take_left' (by rw[List.length_append,hk])
  ·have holds:∀ j u,xs[j]? = some u→w.cell? ((⟨g,off,none⟩:Addr).add j)=some u:=by
    intro j u hu
    have hjn:j < n * i.size:=by rw[← hown.1];exact(List.getElem?_eq_some_iff.1 hu).1
    have hn0:0 < n:=Nat.pos_of_ne_zero (by rintro rfl;simp at hjn);obtain⟨g',off',cap',hv',_,_,_,_,hc⟩:=hown.form hn0
    cases hv'
    rw[Addr.add_lit];exact hc j u hu
   have hr:=run_append_grow (P:=P) w t ty e i z ht hi hz ⟨g,off,none⟩ n cap xs hown.1 holds a m c news hl hnews (by omega) (by omega) (growslice_fits (by omega) hbytes);have hgr:=grown cap (by omega) (Value.ownBlock (.slice (some ⟨g,off,none⟩) n cap));exact⟨_,_,hr,hgr.1,hgr.2,.inr rfl⟩
theorem wp_append_S {o:Oper} {a:Act} {K:Act→World→Prop} {Q:Exit→Act→World→Prop} (s x:Operand) (t:TypeId)
 (ho:o.op = .call { callee:=.builtin .append,args:=#[s,x],argTypes:=#[t,t] })
 (base:Nat) (e:TypeId) (i:TypeInfo) (z:Value) (size bytes:Nat) (ht:P.underlying t=some (.slice e)) (hi:P.info? e=some i) (hz:i.zero=some z)
 (hsize:i.size=size) (hby:i.bytes=bytes) (hzs:z.cells.size=size)
 (v:Value) (n:Nat) (xs:List Value) (hs:a.eval s=v) (hown:OwnS w base e size v n xs)
 (ad:Addr) (m c:Nat) (news:List Value) (hx:a.eval x = .slice (some ad) m c) (hl:news.length=m * size) (hnews:∀ j u,news[j]? = some u→w.cell? (ad.add j)=some u) (h1:∀ u ∈ news,u.oneCell'=true)
 (h63:n+m≤maxLen) (hbytes:(n+m) * bytes≤140737488355328) (hbase:base≤w.heap.size)
 (h:∀ v' w',OwnS w' base e size v' (n+m) (xs ++ news)→w.grownBy w' v.ownBlock→(v'.ownBlock=v.ownBlock∨v'.ownBlock=some w.heap.size)→K (a.put o.dst v') w'):o.wp P a w K Q:=by
 obtain⟨v',w',hr,h2,h3,h4⟩:=run_append_S (P:=P) w base t o.type e i z size bytes ht hi hz hsize hby hzs v n xs hown ad m c news hl hnews h1 h63 hbytes hbase;unfold Oper.wp execOp;simp only[ho,resolve,invoke,builtin,Sem.run_bind,Sem.run_pure,Result.andThen_ok,List.map_toArray,List.map_cons,List.map_nil,hs,hx,hr];exact h v' w' h2 h3 h4
theorem wpList_append_S {ops:Array Oper} {rest:List Oper} {o:Oper} {a:Act} {Q:Exit→Act→World→Prop} (hgd:o.guard=none) (s x:Operand) (t:TypeId)
 (ho:o.op = .call { callee:=.builtin .append,args:=#[s,x],argTypes:=#[t,t] })
 (base:Nat) (e:TypeId) (i:TypeInfo) (z:Value) (size bytes:Nat) (ht:P.underlying t=some (.slice e)) (hi:P.info? e=some i) (hz:i.zero=some z)
 (hsize:i.size=size) (hby:i.bytes=bytes) (hzs:z.cells.size=size)
 (v:Value) (n:Nat) (xs:List Value) (hs:a.eval s=v) (hown:OwnS w base e size v n xs)
 (ad:Addr) (m c:Nat) (news:List Value) (hx:a.eval x = .slice (some ad) m c) (hl:news.length=m * size) (hnews:∀ j u,news[j]? = some u→w.cell? (ad.add j)=some u) (h1:∀ u ∈ news,u.oneCell'=true)
 (h63:n+m≤maxLen) (hbytes:(n+m) * bytes≤140737488355328) (hbase:base≤w.heap.size)
 (h:∀ v' w',OwnS w' base e size v' (n+m) (xs ++ news)→w.grownBy w' v.ownBlock→(v'.ownBlock=v.ownBlock∨v'.ownBlock=some w.heap.size)→wpList P ops Q rest (a.put o.dst v') w'):wpList P ops Q (o :: rest) a w :=
 wpList_plain hgd fun _ hK=>wp_append_S w s x t ho base e i z size bytes ht hi hz hsize hby hzs v n xs hs hown ad m c news hx hl hnews h1 h63 hbytes hbase fun v' w' h2 h3 h4=>hK _ _ (h v' w' h2 h3 h4)
end
end Go.Proofs.YtoepemlnlpamlaaGreat
