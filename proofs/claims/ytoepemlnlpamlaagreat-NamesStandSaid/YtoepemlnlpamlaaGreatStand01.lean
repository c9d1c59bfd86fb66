/- The law NamesStand holds: for every text and every number the law returns true, and its arguments read as before. No condition. Part 1: LexM ParM NamM Base Mem. -/
import Derived.Test.YtoepemlnlpamlaaGreatProg
import Derived.WalkKit
import Derived.WalkSpells
import Derived.WalkLawsBesides
import Derived.Deep.QuietTactic
import Derived.BigQuiet
import Derived.Lib.Hide
import Derived.Deep.AppendSrc
import Derived.Deep.AppendLies
import Derived.Deep.Draws
import Derived.Deep.Upon
import Derived.Deep.LoopGhost
import Derived.Deep.RegionHeld3
import Derived.Deep.RegionLaw
import Derived.Deep.DeepCutAuto
import Derived.Deep.DeepFit
import Derived.BigRegion
import Derived.StillTailTactics
set_option maxRecDepth 100000
set_option maxHeartbeats 4000000
namespace Go.Proofs.YtoepemlnlpamlaaGreat
abbrev aab:=@Nat.le_refl
abbrev aac:=@Nat.le_trans
abbrev aad:=@Bool.and_eq_true
abbrev aae:=@Array.getElem?_eq_some_iff
abbrev aaf:=@List.getElem?_eq_getElem
abbrev aag:=@Option.some.injEq
abbrev aah:=@List.getElem?_eq_some_iff
abbrev aai:=@List.getElem?_cons_zero
abbrev aaj:=@List.getElem?_cons_succ
abbrev aak:=@List.getElem?_toArray
abbrev aal:=@List.getElem?_append_right
abbrev aam:=@List.length_append
abbrev aan:=@List.mem_of_getElem?
abbrev aao:=@List.length_cons
abbrev bE:=List UInt8
def bI(l:bE):ByteArray:=⟨l.toArray⟩
def bz(s:bE)(i:Nat):Nat:=(s.getD i 0).toNat
def tC(s:bE)(a b:Nat):bE:=(s.drop a).take (b - a)
def lH(c:Nat):Bool:=decide (97<=c)&&decide (c<=122)
def fZ(c:Nat):Bool:=decide (48<=c)&&decide (c<=57)
def ru(c:Nat):Bool:=decide (c=9) || decide (c=10) || decide (c=13) || decide (c=32)
def wJ(c:Nat):Bool:=lH c || fZ c || decide (c=95)
def OV:List bE:=[[114,101,99,111,114,100],[112,114,111,99],[118,97,114],[105,102],[101,108,115,101],[119,104,105,108,101],[102,111,114],[116,111],[114,101,116,117,114,110],[97,115,115,101,114,116],[97,110,100],[111,114],[110,111,116],[116,114,117,101],[102,97,108,115,101],[105,110,116],[98,111,111,108],[108,101,110]]
def NY:List bE:=[[61,61],[33,61],[60,61],[62,61]]
def Gp:List bE:=[[60],[62],[61],[43],[45],[42],[47],[37],[40],[41],[123],[125],[91],[93],[44],[59],[58],[46]]
def si(l:List bE)(s:bE):Bool:=l.any fun x=>decide (x=s)
def J2(s:bE):Bool:=si OV s
def xC(s:bE)(at_:Nat):Nat:=
 if decide (at_+2<=s.length)&&si NY (tC s at_ (at_+2)) then 2 else if si Gp (tC s at_ (at_+1)) then 1 else 0
def uB(s:bE)(at_:Nat):Bool:=lH (bz s at_) || fZ (bz s at_) || decide (0<xC s at_)
def iJ(p:Nat->Bool):bE->Nat->Nat->Nat
 | _,0,a=>a
 | s,f+1,a=>if decide (a<s.length)&&p a then iJ p s f (a+1) else a
def kN(s:bE):Nat->Nat->Nat
 | 0,a=>a
 | f+1,a=>if decide (a<s.length)&&(ru (bz s a) || decide (bz s a=35)) then(if bz s a=35 then kN s f (iJ (fun i=> !decide (bz s i=10)) s s.length a) else kN s f (a+1)) else a
def il(s:bE)(a:Nat):Nat×Nat:=
 if lH (bz s a) then
  (if J2 (tC s a (iJ (fun i=>wJ (bz s i)) s s.length a)) then 1 else 0,iJ (fun i=>wJ (bz s i)) s s.length a)
 else if fZ (bz s a) then(2,iJ (fun i=>fZ (bz s i)) s s.length a)
 else if 0<xC s a then(3,a+xC s a)
 else(4,iJ (fun i=> !ru (bz s i)&& !decide (bz s i=35)&& !uB s i) s s.length a)
structure jP where
 kind:Nat
 from_:Nat
 at_:Nat
 end_:Nat
deriving DecidableEq
def ui(s:bE):Nat->Nat->List jP
 | 0,_=>[]
 | f+1,from_=>
  let a:=kN s (s.length+1) from_
  if s.length<=a then [⟨5,from_,a,a⟩] else⟨(il s a).1,from_,a,(il s a).2⟩::ui s f (il s a).2
def qV(s:bE):List jP:=ui s (s.length+1) 0
def xK:bE->Nat->Option Nat
 | [],n=>some n
 | c::r,n=>if fZ c.toNat then xK r (10*n+(c.toNat - 48)) else none
def jw(s:bE):Option Nat:=if s.length<1\/9<s.length then none else xK s 0
def zB(s:bE):Bool:=decide (1<=s.length)&&decide (s.length<=16)&&lH (bz s 0)&& !J2 s&&decide ((il s 0).2=s.length)
section
variable {p:Nat->Bool}{s:bE}
theorem F6:∀(f a0 a:Nat),a0<=a->a<=s.length->(∀j,a0<=j->j<a->p j=true)->(a<s.length->p a=false)->s.length<=f+a0->iJ p s f a0=a:=by
 intro f
 induction f with
 | zero=>
  intro a0 a h1 h2 _ _ h5;have:a0=a:=by omega
  subst this;rfl
 | succ f ih=>
  intro a0 a h1 h2 h3 h4 h5;unfold iJ;by_cases h:a0=a
  ·subst h
   by_cases hl:a0<s.length
   ·rw[h4 hl];simp
   ·simp[hl]
  ·have hp:=h3 a0 (aab _) (by omega)
   rw[hp,decide_eq_true (by omega:a0<s.length),Bool.and_true,if_pos rfl];exact ih (a0+1) a (by omega) h2 (fun j hj hj2=>h3 j (by omega) hj2) h4 (by omega)
theorem EG:∀(f a0:Nat),a0<=s.length->s.length<=f+a0 ->
 a0<=iJ p s f a0/\iJ p s f a0<=s.length/\(∀j,a0<=j->j<iJ p s f a0->p j=true)/\(iJ p s f a0<s.length->p (iJ p s f a0)=false):=by
 intro f
 induction f with
 | zero=>
  intro a0 h1 h2;have:a0=s.length:=by omega
  subst this;exact⟨aab _,aab _,fun j h3 h4=>by simp only[iJ]at h4;omega,fun h3=>by simp only[iJ]at h3;omega⟩
 | succ f ih=>
  intro a0 h1 h2;unfold iJ;by_cases h:(decide (a0<s.length)&&p a0)=true
  ·rw[if_pos h]
   simp at h;obtain⟨i1,i2,i3,i4⟩:=ih (a0+1) (by omega) (by omega);refine⟨by omega,i2,fun j h3 h4=>?_,i4⟩;by_cases hj:j=a0
   ·subst hj;exact h.2
   ·exact i3 j (by omega) h4
  ·rw[if_neg h]
   refine⟨aab _,h1,fun j h3 h4=>by omega,fun h3=>?_⟩;simp at h;exact h h3
theorem F5{a:Nat}(h:a<s.length)(hp:p a=true):a<iJ p s s.length a:=by
 obtain⟨i1,i2,i3,i4⟩:=EG (p:=p) (s:=s) s.length a (by omega) (by omega);rcases Nat.lt_or_ge a (iJ p s s.length a) with h1|h1
 ·exact h1
 ·have:iJ p s s.length a=a:=by omega
  rw[this]at i4;rw[i4 h]at hp;cases hp
theorem CX:∀(f a:Nat),a<=s.length->s.length<f+a->a<=kN s f a/\kN s f a<=s.length/\(kN s f a<s.length->ru (bz s (kN s f a))=false/\bz s (kN s f a)≠35):=by
 intro f
 induction f with
 | zero=>intro a h1 h2;omega
 | succ f ih=>
  intro a h1 h2;unfold kN;by_cases h:(decide (a<s.length)&&(ru (bz s a) || decide (bz s a=35)))=true
  ·rw[if_pos h]
   simp at h;by_cases uG:bz s a=35
   ·rw[if_pos uG]
    have hr:=F5 (p:=fun i=> !decide (bz s i=10)) h.1 (by simp[uG]);have hr2:=(EG (p:=fun i=> !decide (bz s i=10)) (s:=s) s.length a h1 (by omega)).2.1;have:=ih _ hr2 (by omega);exact⟨by omega,this.2⟩
   ·rw[if_neg uG]
    have:=ih (a+1) (by omega) (by omega);exact⟨by omega,this.2⟩
  ·rw[if_neg h]
   refine⟨aab _,h1,fun h3=>?_⟩;simp[h3]at h;exact h
theorem symM_le(a:Nat):xC s a<=2:=by unfold xC;split<;>(try split)<;>omega
theorem X6{a:Nat}(h:a<s.length):a+xC s a<=s.length:=by
 unfold xC;split
 ·rename_i h1
  simp at h1;omega
 ·split<;>omega
theorem BP{a:Nat}(h:a<s.length)(hb:ru (bz s a)=false)(uG:bz s a≠35):a<(il s a).2/\(il s a).2<=s.length/\(il s a).1<=4:=by
 have hle:=fun p=>(EG (p:=p) (s:=s) s.length a (by omega) (by omega)).2.1
 unfold il;by_cases h1:lH (bz s a)=true
 ·rw[if_pos h1]
  refine⟨F5 h (by simp[wJ,h1]),hle _,?_⟩;simp only;split<;>omega
 ·rw[if_neg h1]
  by_cases h2:fZ (bz s a)=true
  ·rw[if_pos h2]
   exact⟨F5 h h2,hle _,by simp⟩
  ·rw[if_neg h2]
   by_cases h3:0<xC s a
   ·rw[if_pos h3]
    exact⟨by simp only;omega,X6 h,by simp⟩
   ·rw[if_neg h3]
    refine⟨F5 h ?_,hle _,by simp⟩;simp[hb,uG,uB,h1,h2,h3]
end
inductive aa where
 | node (k:Int) (t:ByteArray) (a e:Int) (kids:List aa)
def aa.kind:aa->Int| .node k _ _ _ _=>k
def aa.text:aa->ByteArray| .node _ t _ _ _=>t
def aa.at_:aa->Int| .node _ _ a _ _=>a
def aa.end_:aa->Int| .node _ _ _ e _=>e
def aa.kids:aa->List aa| .node _ _ _ _ l=>l
structure Dg where
 code:Int
 at_:Int
 end_:Int
 text:ByteArray
structure PS where
 k:Nat
 last:Nat
 ds:List Dg
section
variable (s:bE) (l:List jP)
def XY:jP:=⟨5,0,0,0⟩
def iG(k:Nat):jP:=l.getD k XY
def Bp(t:jP):bE:=tC s t.at_ t.end_
def bR(k:Nat):bE:=Bp s (iG l k)
def bP(p:PS):Nat:=(iG l p.k).kind
def oo(p:PS):bE:=if p.k+1<l.length then bR s l (p.k+1) else []
def aC(p:PS):PS:=⟨p.k+1,(iG l p.k).end_,p.ds⟩
def iK(p:PS)(code:Int)(text:bE):PS:=
 match p.ds.getLast? with
 | some d=>if d.at_=((iG l p.k).at_:Int) then p else { p with ds:=p.ds++[⟨code,(iG l p.k).at_,(iG l p.k).end_,bI text⟩] }
 | none=> { p with ds:=p.ds++[⟨code,(iG l p.k).at_,(iG l p.k).end_,bI text⟩] }
def bM(p:PS)(w:bE):Bool:=decide (bP l p≠5)&&decide (bR s l p.k=w)
def bN(p:PS)(w:bE):PS:=if bM s l p w then aC l p else p
def aH(p:PS)(w:bE):PS:=if bM s l p w then aC l p else iK l p 4 w
def dF(p:PS):bE:=if bP l p=0 then bR s l p.k else []
def dG(p:PS):PS:=if bP l p=0 then aC l p else iK l p 4 [110,97,109,101]
def gV:bE->bE
 | 48::c::r=>gV (c::r)
 | x=>x
def bW(p:PS)(first:Nat)(kids:List aa):Int:=
 let a:Int:=if first<p.k then((iG l first).at_:Int) else(p.last:Int)
 match kids with
 | []=>a
 | t::_=>if t.at_<a then t.at_ else a
def aI(p:PS)(first:Nat)(kind:Int)(text:bE)(kids:List aa):aa:=.node kind (bI text) (bW l p first kids) p.last kids
def qU(p:PS):aa×PS:=
 if bM s l p [98,111,111,108] then(aI l (aC l p) p.k 9 [98,111,111,108] [],aC l p)
 else if bM s l p [105,110,116] then
  let p1:=aC l p
  if bM s l p1 [91] then
   let p2:=aC l p1
   let p4:=if bP l p2=2 then aH s l (aC l p2) [93] else aH s l (iK l p2 4 [110,117,109,98,101,114]) [93]
   (aI l p4 p.k 10 (if bP l p2=2 then gV (bR s l p2.k) else []) [],p4)
  else(aI l p1 p.k 9 [105,110,116] [],p1)
 else if bP l p=0 then(aI l (aC l p) p.k 9 (bR s l p.k) [],aC l p)
 else(aI l (iK l p 4 [116,121,112,101]) p.k 1 [] [],iK l p 4 [116,121,112,101])
def jb(p:PS):aa×PS:=if bM s l p [58] then qU s l (aC l p) else(aI l p p.k 0 [] [],p)
def jS(p:PS):aa×PS:=
 let p1:=aH s l (dG l p) [58]
 if bM s l p1 [105,110,116] || bM s l p1 [98,111,111,108] then
  (aI l (aC l p1) p.k 4 (dF s l p) [aI l (aC l p1) p1.k 9 (bR s l p1.k) []],aC l p1)
 else
  let p2:=iK l p1 4 [116,121,112,101]
  (aI l p2 p.k 4 (dF s l p) [aI l p2 p1.k 1 [] []],p2)
def mf:Nat->PS->List aa->Option (List aa×PS)
 | 0,_,_=>none
 | f+1,p,kids=>if bM s l p [44] then mf f (jS s l (aC l p)).2 (kids++[(jS s l (aC l p)).1]) else some (kids,p)
def nE(f:Nat)(p:PS):Option (aa×PS):=
 let p1:=dG l (aC l p)
 let p2:=aH s l p1 [123]
 match mf s l f (jS s l p2).2 [(jS s l p2).1] with
 | none=>none
 | some (kids,p3)=>some (aI l (aH s l p3 [125]) p.k 3 (dF s l (aC l p)) kids,aH s l p3 [125])
def gZ(p:PS):aa×PS:=
 let p1:=bN s l p [118,97,114]
 let r:=jb s l (dG l p1)
 (aI l r.2 p.k (if bM s l p [118,97,114] then 8 else 7) (dF s l p1) [r.1],r.2)
def jX:Nat->PS->List aa->Option (List aa×PS)
 | 0,_,_=>none
 | f+1,p,kids=>if bM s l p [44] then jX f (gZ s l (aC l p)).2 (kids++[(gZ s l (aC l p)).1]) else some (kids,p)
def qz(f:Nat)(p:PS):Option (aa×PS):=
 let p1:=aH s l p [40]
 match (if bM s l p1 [41] then some ([],p1) else jX s l f (gZ s l p1).2 [(gZ s l p1).1]) with
 | none=>none
 | some (kids,p2)=>some (aI l (aH s l p2 [41]) p.k 6 [] kids,aH s l p2 [41])
def kW(p:PS):aa×PS:=(aI l (dG l p) p.k 20 (dF s l p) [],dG l p)
def ko(p:PS):Bool:=decide (bP l p=5) || bM s l p [125] || bM s l p [112,114,111,99] || bM s l p [114,101,99,111,114,100]
def Cz:List bE:=[[118,97,114],[105,102],[119,104,105,108,101],[102,111,114],[114,101,116,117,114,110],[97,115,115,101,114,116]]
def zL(p:PS):Bool:=decide (bP l p=1)&&si Cz (bR s l p.k)
def qp(first:Nat):Nat->PS->Option PS
 | 0,_=>none
 | f+1,p=>
  if !ko s l p&&(decide (p.k=first) || !zL s l p) then
   (if bR s l p.k=[59] then some (aC l p) else qp first f (aC l p))
  else some p
def pU(f:Nat)(p:PS):Option (aa×PS):=
 match qp s l p.k f (iK l p 6 []) with
 | none=>none
 | some p1=>some (aI l p1 p.k 1 [] [],p1)
def zX(lv:Nat):List bE:=
 if lv=1 then [[111,114]] else if lv=2 then [[97,110,100]] else if lv=4 then [[61,61],[33,61],[60],[60,61],[62],[62,61]] else if lv=5 then [[43],[45]] else if lv=6 then [[42],[47],[37]] else []
def xX(p:PS)(lv:Nat):Bool:=decide (bP l p≠5)&&si (zX lv) (bR s l p.k)
def C8(p:PS):Bool:=decide (bP l p=0) || decide (bP l p=2) || bM s l p [116,114,117,101] || bM s l p [102,97,108,115,101] || bM s l p [108,101,110] || bM s l p [40] || bM s l p [91]
inductive Fn where
 | expr (lv:Nat)
 | sS (lv first:Nat) (x:aa)
 | operand
 | args
 | oq (kids:List aa)
 | place
 | stmt
 | block
 | qi (kids:List aa)
 | branch
def pW(r:Option (List aa×PS))(f:aa->PS->Option (List aa×PS)):Option (List aa×PS):=
 match r with
 | some ([x],p)=>f x p
 | _=>none
def yP(r:Option (List aa×PS))(f:List aa->PS->Option (List aa×PS)):Option (List aa×PS):=
 match r with
 | some (x,p)=>f x p
 | none=>none
def aO:Nat->Fn->PS->Option (List aa×PS)
 | 0,_,_=>none
 | f+1,.expr lv,p=>
  if lv=3 then
   (if bM s l p [110,111,116] then pW (aO f (.expr 3) (aC l p)) fun x q=>some ([aI l q p.k 28 [110,111,116] [x]],q) else aO f (.expr 4) p)
  else if lv=7 then
   (if bM s l p [45] then pW (aO f (.expr 7) (aC l p)) fun x q=>some ([aI l q p.k 28 [45] [x]],q) else aO f .operand p)
  else pW (aO f (.expr (lv+1)) p) fun x q=>aO f (.sS lv p.k x) q
 | f+1,.sS lv first x,p=>
  if xX s l p lv then
   pW (aO f (.expr (lv+1)) (aC l p)) fun y q=>
    let z:=aI l q first 29 (bR s l p.k) [x,y]
    if lv=4 then some ([z],q) else aO f (.sS lv first z) q
  else some ([x],p)
 | f+1,.operand,p=>
  if bP l p=2 then some ([aI l (aC l p) p.k 24 (gV (bR s l p.k)) []],aC l p)
  else if bM s l p [116,114,117,101] || bM s l p [102,97,108,115,101] then some ([aI l (aC l p) p.k 25 (bR s l p.k) []],aC l p)
  else if decide (bP l p=0)&&decide (oo s l p=[40]) then
   yP (aO f .args (aC l p)) fun kids q=>some ([aI l q p.k 27 (bR s l p.k) kids],q)
  else if bP l p=0 then aO f .place p
  else if bM s l p [91] then
   pW (aO f (.expr 1) (aC l p)) fun x q=>yP (aO f (.oq [x]) q) fun kids q2=>some ([aI l (aH s l q2 [93]) p.k 26 [] kids],aH s l q2 [93])
  else if bM s l p [108,101,110] then
   let p1:=aH s l (aC l p) [40]
   let p2:=aH s l (kW s l p1).2 [41]
   some ([aI l p2 p.k 23 [] [(kW s l p1).1]],p2)
  else if bM s l p [40] then pW (aO f (.expr 1) (aC l p)) fun x q=>some ([x],aH s l q [41])
  else some ([aI l (iK l p 5 []) p.k 1 [] []],iK l p 5 [])
 | f+1,.args,p=>
  let p1:=aC l p
  if bM s l p1 [41] then some ([],aH s l p1 [41])
  else pW (aO f (.expr 1) p1) fun x q=>yP (aO f (.oq [x]) q) fun kids q2=>some (kids,aH s l q2 [41])
 | f+1,.oq kids,p=>
  if bM s l p [44] then pW (aO f (.expr 1) (aC l p)) fun x q=>aO f (.oq (kids++[x])) q else some (kids,p)
 | f+1,.place,p=>
  let x:=(kW s l p).1
  let p1:=(kW s l p).2
  if bM s l p1 [91] then pW (aO f (.expr 1) (aC l p1)) fun y q=>some ([aI l (aH s l q [93]) p.k 21 [] [x,y]],aH s l q [93])
  else if bM s l p1 [46] then some ([aI l (dG l (aC l p1)) p.k 22 (dF s l (aC l p1)) [x]],dG l (aC l p1))
  else some ([x],p1)
 | f+1,.stmt,p=>
  if bM s l p [118,97,114] then
   let p1:=aC l p
   let r:=jb s l (dG l p1)
   pW (aO f (.expr 1) (aH s l r.2 [61])) fun x q=>some ([aI l (aH s l q [59]) p.k 12 (dF s l p1) [r.1,x]],aH s l q [59])
  else if bM s l p [105,102] then aO f .branch p
  else if bM s l p [119,104,105,108,101] then
   pW (aO f (.expr 1) (aC l p)) fun c q=>pW (aO f .block q) fun b q2=>some ([aI l q2 p.k 15 [] [c,b]],q2)
  else if bM s l p [102,111,114] then
   let p1:=aC l p
   pW (aO f (.expr 1) (aH s l (dG l p1) [61])) fun x q=>pW (aO f (.expr 1) (aH s l q [116,111])) fun y q2=>pW (aO f .block q2) fun b q3=>some ([aI l q3 p.k 16 (dF s l p1) [x,y,b]],q3)
  else if bM s l p [114,101,116,117,114,110] then
   let p1:=aC l p
   if C8 s l p1 || bM s l p1 [110,111,116] || bM s l p1 [45] then pW (aO f (.expr 1) p1) fun x q=>some ([aI l (aH s l q [59]) p.k 17 [] [x]],aH s l q [59])
   else some ([aI l (aH s l p1 [59]) p.k 17 [] [aI l p1 p1.k 0 [] []]],aH s l p1 [59])
  else if bM s l p [97,115,115,101,114,116] then
   pW (aO f (.expr 1) (aC l p)) fun x q=>some ([aI l (aH s l q [59]) p.k 18 [] [x]],aH s l q [59])
  else if decide (bP l p=0)&&decide (oo s l p=[40]) then
   yP (aO f .args (aC l p)) fun kids q=>some ([aI l (aH s l q [59]) p.k 19 (bR s l p.k) kids],aH s l q [59])
  else if bP l p=0 then
   pW (aO f .place p) fun x q=>pW (aO f (.expr 1) (aH s l q [61])) fun y q2=>some ([aI l (aH s l q2 [59]) p.k 13 [] [x,y]],aH s l q2 [59])
  else match pU s l f p with
   | none=>none
   | some (x,q)=>some ([x],q)
 | f+1,.block,p=>
  if bM s l p [123] then
   yP (aO f (.qi []) (aC l p)) fun kids q=>some ([aI l (aH s l q [125]) p.k 11 [] kids],aH s l q [125])
  else some ([aI l (iK l p 4 [123]) p.k 11 [] []],iK l p 4 [123])
 | f+1,.qi kids,p=>
  if ko s l p then some (kids,p) else pW (aO f .stmt p) fun x q=>aO f (.qi (kids++[x])) q
 | f+1,.branch,p=>
  pW (aO f (.expr 1) (aC l p)) fun c q=>pW (aO f .block q) fun b q2=>
   if bM s l q2 [101,108,115,101] then
    (if bM s l (aC l q2) [105,102] then pW (aO f .branch (aC l q2)) fun o q3=>some ([aI l q3 p.k 14 [] [c,b,o]],q3)
    else pW (aO f .block (aC l q2)) fun o q3=>some ([aI l q3 p.k 14 [] [c,b,o]],q3))
   else some ([aI l q2 p.k 14 [] [c,b,aI l q2 q2.k 0 [] []]],q2)
def rX(f:Nat)(p:PS):Option (aa×PS):=
 let p1:=dG l (aC l p)
 match qz s l f p1 with
 | none=>none
 | some (x,p2)=>
  let r:=jb s l p2
  match aO s l f .block r.2 with
  | some ([b],p3)=>some (aI l p3 p.k 5 (dF s l (aC l p)) [x,r.1,b],p3)
  | _=>none
def nz:Nat->PS->Option PS
 | 0,_=>none
 | f+1,p=>if decide (bP l p≠5)&& !bM s l p [114,101,99,111,114,100]&& !bM s l p [112,114,111,99] then nz f (aC l p) else some p
def j3:Nat->PS->List aa->Option (List aa×PS)
 | 0,_,_=>none
 | f+1,p,kids=>
  if bP l p=5 then some (kids,p)
  else if bM s l p [114,101,99,111,114,100] then(match nE s l f p with|none=>none|some (x,q)=>j3 f q (kids++[x]))
  else if bM s l p [112,114,111,99] then(match rX s l f p with|none=>none|some (x,q)=>j3 f q (kids++[x]))
  else match nz s l f (iK l p 7 []) with
   | none=>none
   | some q=>j3 f q (kids++[aI l q p.k 1 [] []])
end
def mG(s:bE):List jP:=(qV s).filter fun t=>decide (t.kind≠4)
def sJ(s:bE)(t:jP):Int:=
 if t.kind=4 then 1 else if t.kind=2/\(jw (Bp s t)).isNone=true then 2 else if t.kind=0/\16<(t.end_:Int) - t.at_ then 3 else 0
def iL(s:bE):List Dg:=(qV s).filterMap fun t=>if 0<sJ s t then some ⟨sJ s t,t.at_,t.end_,bI []⟩ else none
def iE:List Dg->List Dg->List Dg
 | [],b=>b
 | a,[]=>a
 | x::a,y::b=>if x.at_<=y.at_ then x::iE a (y::b) else y::iE (x::a) b
termination_by a b=>a.length+b.length
def qE(f:Nat)(s:bE):Option (aa×List Dg):=
 match j3 s (mG s) f ⟨0,0,[]⟩ [] with
 | none=>none
 | some (kids,p)=>some (.node 2 (bI []) 0 s.length kids,iE (iL s) p.ds)
structure Dc where
 kind:Int
 name:ByteArray
 node:Int
 owner:Int
 deriving DecidableEq
abbrev nA:=List (ByteArray×Int)
abbrev aT:=List nA
def bG{K V:Type}[DecidableEq K]:List (K×V)->K->Option V
 | [],_=>none
 | x::l,k=>if k=x.1 then some x.2 else bG l k
def dK{K V:Type}[DecidableEq K]:List (K×V)->K->V->List (K×V)
 | [],k,v=>[(k,v)]
 | x::l,k,v=>if k=x.1 then(k,v)::l else x::dK l k v
abbrev bY(l:nA)(n:ByteArray):Option Int:=bG l n
def eO:aT->ByteArray->Option Int
 | [],_=>none
 | x::s,n=>match bY x n with|some k=>some k|none=>eO s n
def aj(s:aT):List Int:=s.flatMap fun l=>l.map (·.2)
def ah(l:List Int):List Int:=l.mergeSort fun a b=>decide (a<=b)
def lL(s:aT)(l:nA):aT:=
 match s with
 | []=>[]
 | x::s=>(l.foldl (fun a y=>dK a y.1 y.2) x)::s
structure bD where
 globals:nA
 fields:nA
 kinds:List (Int×Int)
mutual
def ai:aa->Nat
 | .node _ _ _ _ kids=>1+ag kids
def ag:List aa->Nat
 | []=>0
 | t::ts=>ai t+ag ts
end
def oP(l:nA)(n:ByteArray)(k:Int):nA:=if (bY l n).isSome then l else dK l n k
def ib:List aa->Nat->nA->nA
 | [],_,l=>l
 | f::fs,at_,l=>ib fs (at_+ai f) (if f.kind=4 then oP l f.text at_ else l)
def iQ:List aa->Nat->bD->bD
 | [],_,g=>g
 | k::ks,n,g=>iQ ks (n+ai k) ⟨oP g.globals k.text n,ib k.kids (n+1) g.fields,dK g.kinds (n:Int) k.kind⟩
def fG(t:aa):bD:=iQ t.kids 1 ⟨[],[],[]⟩
structure RS where
 ds:List Dc
 uses:List Int
 bH:List (Int×List Int)
 aR:List (Int×Dg)
 next:Nat
 owner:Int
def pV(r:RS)(code:Int)(n:Nat)(t:aa):RS:={ r with aR:=r.aR++[((n:Int),⟨code,t.at_,t.end_,t.text⟩)] }
def jk(r:RS)(kind:Int)(n:Nat)(t:aa):RS:=
 { r with ds:=r.ds++[⟨kind,t.text,n,if kind=0\/kind=2 then -1 else r.owner⟩],uses:=r.uses.set n (n:Int) }
def bF(r:RS)(kind:Int)(n:Nat)(t:aa)(already:Bool):RS:=if already then pV r 9 n t else jk r kind n t
def aD(G:bD)(r:RS)(kind:Int)(n:Nat)(t:aa)(s:aT):RS×aT:=
 if (eO s t.text).isSome || (bY G.globals t.text).isSome then(pV r 9 n t,s) else(jk r kind n t,lL s [(t.text,(n:Int))])
def gB(r:RS)(n:Nat)(t:aa)(Ey:Option Int):RS:=
 match Ey with
 | none=>pV r 8 n t
 | some k=> { r with uses:=r.uses.set n k }
def mM(G:bD)(k:Int):Int:=(bG G.kinds k).getD 0
def iB(t:ByteArray):Bool:=decide (t=⟨#[105,110,116]⟩) || decide (t=⟨#[98,111,111,108]⟩)
mutual
def aL(G:bD)(inside:Bool):aa->aT->RS->RS×aT
 | .node k x a e kids,s,r0=>
  let t:aa:=.node k x a e kids
  let n:=r0.next
  let r:RS:={ r0 with next:=n+1,bH:=if inside then dK r0.bH (n:Int) (ah (aj s)) else r0.bH }
  let Ey:=(bY G.globals x).getD 0
  if k=3 then af G inside kids 0 kids.length s { bF r 0 n t (decide (Ey≠n)) with owner:=n }
  else if k=4 then af G inside kids 0 kids.length s (bF r 1 n t (decide ((bY G.fields x).getD 0≠n)))
  else if k=5 then
   let r1:RS:={ bF r 2 n t (decide (Ey≠n)) with owner:=n }
   let q:=af G false kids 0 2 [[]] r1
   ((af G true kids 2 1 ([]::q.2) q.1).1,s)
  else if k=7\/k=8 then
   let q:=aD G r 3 n t s
   af G inside kids 0 kids.length q.2 q.1
  else if k=11 then
   let q:=af G inside kids 0 kids.length ([]::s) r
   (q.1,q.2.tail)
  else if k=12 then
   let q:=aD G r 4 n t ([]::s)
   let q2:=af G inside kids 0 2 s q.1
   (q2.1,lL q2.2 (q.2.headD []))
  else if k=16 then
   let q:=aD G r 5 n t ([]::s)
   let q2:=af G inside kids 0 2 s q.1
   let q3:=af G inside kids 2 1 (q.2.headD []::q2.2) q2.1
   (q3.1,q3.2.tail)
  else
   let r1:=if k=20 then gB r n t (eO s x)
    else if k=22 then gB r n t (bY G.fields x)
    else if k=27 then gB r n t (bY G.globals x)
    else if k=19 then gB r n t ((bY G.globals x).filter fun j=>decide (mM G j=5))
    else if k=9/\iB x=false then gB r n t ((bY G.globals x).filter fun j=>decide (mM G j=3))
    else r
   af G inside kids 0 kids.length s r1
def af(G:bD)(inside:Bool):List aa->Nat->Nat->aT->RS->RS×aT
 | [],_,_,s,r=>(r,s)
 | _::ts,from_+1,n,s,r=>af G inside ts from_ n s r
 | _::_,0,0,s,r=>(r,s)
 | t::ts,0,n+1,s,r=>
  let q:=aL G inside t s r
  af G inside ts 0 n q.2 q.1
end
def yQ:List Dc->Nat->List (Int×Int)->List (Int×Int)
 | [],_,l=>l
 | d::ds,i,l=>yQ ds (i+1) (dK l d.node (i:Int))
def nN(ds:List Dc)(u:Int):Int:=(bG (yQ ds 0 [(-1,-1)]) u).getD 0
def cK(t:aa):RS:=
 let r:=(aL (fG t) false t [] ⟨[],List.replicate (ai t) (-1),[],[],0,0⟩).1
 { r with uses:=r.uses.map (nN r.ds),bH:=r.bH.map fun x=>(x.1,x.2.map (nN r.ds)) }
mutual
def nQ:aa->List (List ByteArray)->List ByteArray->List ByteArray
 | .node k x _ _ kids,s,out=>
  uR k x kids 0 ([]::s) (if k=20 then(if (s.any fun l=>l.contains x) || out.contains x then out else out++[x]) else out)
def uR(k:Int)(x:ByteArray):List aa->Nat->List (List ByteArray)->List ByteArray->List ByteArray
 | [],_,_,out=>out
 | t::ts,i,s,out=>
  uR k x ts (i+1) (if t.kind=12 then(match s with| []=>[]|l::s=>(l++[t.text])::s) else s) (nQ t (if k=16/\i=2 then [x]::s else s) out)
end
open Go.RowKit
theorem sA{α:Type}{l:List α}{i:Nat}{a:α}:l.toArray.setIfInBounds i a=(l.set i a).toArray:=by simp
theorem sZ{α:Type}{x:α}{l:List α}{a:α}:(x::l).set 0 a=a::l:=rfl
theorem sC{α:Type}{x:α}{l:List α}{n:Nat}{a:α}:(x::l).set (n+1) a=x::l.set n a:=rfl
theorem kH{p:Prop}(h:p):Go.RowKit.Hid p:=Lib.hid h
theorem Oo{a b:Bool}(h:a=b):Ending.returned (.bool a)= .returned (.bool b):=by rw[h]
theorem RG{k:IntKind}{a b:Int}(h:a=b):Ending.returned (.int k a)= .returned (.int k b):=by rw[h]
theorem bq{B:Nat}{a w:World}(h:Below B a w)(n:Nat):Below B a (w.drewN n):=⟨h.os,h.tape,h.output,h.size,h.block⟩
def df{α:Type}(size:Nat)(cells:α->List Value)(w:World)(B:Nat)(A:Option Addr)(l:List α):Prop:=
 ∀k c,l[k]? =some c->∃b off,A=some ⟨b,off,none⟩/\b<B/\∀j v,(cells c)[j]? =some v->w.cell? ⟨b,off+k*size+j,none⟩=some v
theorem df.below{α:Type}{size:Nat}{cells:α->List Value}{w w':World}{B B':Nat}{A:Option Addr}{l:List α}(h:df size cells w B A l)(hb:Below B' w w')(hB:B<=B'):
 df size cells w' B A l:=by
 intro k c hk;obtain⟨b,off,hA,hlt,hc⟩:=h k c hk;exact⟨b,off,hA,hlt,fun j v hj=>(hb.cell (p:=⟨b,_,none⟩) (by show b<B';omega)).trans (hc j v hj)⟩
theorem df.mono{α:Type}{size:Nat}{cells:α->List Value}{w:World}{B B':Nat}{A:Option Addr}{l:List α}(h:df size cells w B A l)(hB:B<=B'):df size cells w B' A l:=by
 intro k c hk;obtain⟨b,off,hA,hlt,hc⟩:=h k c hk;exact⟨b,off,hA,by omega,hc⟩
def ak(w:World)(g:Nat)(t:TypeId)(cs:Array Value):Prop:=w.heap[g]? =some (.cells cs t (0,0))
section
variable {w w':World}{g:Nat}{t:TypeId}{cs:Array Value}
theorem ak.lt(h:ak w g t cs):g<w.heap.size:=(aae.1 h).1
theorem ak.cell(h:ak w g t cs)(i:Nat):w.cell? ⟨g,i,none⟩=cs[i]? :=cell_of_row w g i cs t (0,0) h
theorem ak.frozen(h:ak w g t cs)(i:Nat):w.frozen? ⟨g,i,none⟩=false:=by
 unfold ak at h;simp[World.frozen?,h]
theorem ak.keep(h:ak w g t cs)(hk:w'.heap[g]? =w.heap[g]?):ak w' g t cs:=hk.trans h
theorem ak.new(w:World)(t:TypeId)(cs:Array Value):ak (w.alloc (.cells cs t)) w.heap.size t cs:=heap_alloc_new w _
theorem ak.drew(h:ak w g t cs):ak w.drew g t cs:=h
theorem ak.drewN(h:ak w g t cs)(n:Nat):ak (w.drewN n) g t cs:=h
theorem ak.alloc(h:ak w g t cs)(o:Obj):ak (w.alloc o) g t cs:=h.keep (Below.heap_alloc w o g h.lt)
theorem ak.gY(h:ak w g t cs)(i:Nat)(u:Value):ak (w.setCell ⟨g,i,none⟩ u) g t (cs.setIfInBounds i u):=by
 unfold ak at h⊢;simp[World.setCell,Array.getElem?_modify,h]
theorem ak.far(h:ak w g t cs){p:Addr}(hp:g≠p.block)(u:Value):ak (w.setCell p u) g t cs:=h.keep (Below.heap_setCell w p u g hp)
theorem ak.below{B:Nat}(h:ak w g t cs)(hb:Below B w w')(hg:g<B):ak w' g t cs:=h.keep (hb.block g hg)
theorem ak.grown{row:Option Nat}(h:ak w g t cs)(hb:w.grownBy w' row)(hg:some g≠row):ak w' g t cs:=h.keep (hb.block g h.lt hg)
end
def aP(w:World)(base:Nat)(e:TypeId)(size:Nat)(v:Value)(n:Nat)(xs:List Value):Prop:=
 xs.length=n*size/\((v= .slice none 0 0/\n=0) \/
  ∃g off cap cur,v= .slice (some ⟨g,off,none⟩) n cap/\base<=g/\w.heap[g]? =some (.cells cur e (0,0))/\n<=cap/\cap<=maxLen/\off+cap*size<=cur.size/\(cur.toList.drop off).take (n*size)=xs)
section
variable {w w':World}{base:Nat}{e:TypeId}{size:Nat}{v:Value}{n:Nat}{xs:List Value}
theorem aP.nil(w:World)(base:Nat)(e:TypeId)(size:Nat):aP w base e size (.slice none 0 0) 0 []:=⟨by simp,.inl ⟨rfl,rfl⟩⟩
theorem aP.block{g:Nat}{cur:Array Value}{n:Nat}(hb:base<=g)(hg:w.heap[g]? =some (.cells cur e (0,0)))(hm:n<=maxLen)(hs:cur.size=n*size):aP w base e size (.slice (some ⟨g,0,none⟩) n n) n cur.toList:=
 ⟨by simpa using hs,.inr ⟨g,0,n,cur,rfl,hb,hg,aab _,hm,by omega,by rw[List.drop_zero,List.take_of_length_le (by simp;omega)]⟩⟩
theorem aP.lt(h:aP w base e size v n xs):∀k,v.ownBlock=some k->base<=k/\k<w.heap.size:=by
 intro k hk;rcases h.2 with⟨rfl,_⟩| ⟨g,off,cap,cur,rfl,hb,hg,_⟩
 ·simp[Value.ownBlock]at hk
 ·simp[Value.ownBlock]at hk
  subst hk;exact⟨hb,(aae.1 hg).1⟩
theorem aP.form(h:aP w base e size v n xs)(hn:0<n):∃g off cap,v= .slice (some ⟨g,off,none⟩) n cap/\n<=cap/\cap<=maxLen/\base<=g/\g<w.heap.size/\∀j u,xs[j]? =some u->w.cell? ⟨g,off+j,none⟩=some u:=by
 rcases h.2 with⟨_,h0⟩| ⟨g,off,cap,cur,hv,hb,hg,hn,hm,hs,ht⟩
 ·omega
 ·refine⟨g,off,cap,hv,hn,hm,hb,(aae.1 hg).1,fun j u hu=>?_⟩
  rw[cell_of_row w g (off+j) cur e (0,0) hg];rw[<- ht,List.getElem?_take]at hu;split at hu
  ·rw[List.getElem?_drop]at hu
   simpa using hu
  ·cases hu
theorem aP.shape(h:aP w base e size v n xs):∃A c,v= .slice A n c/\n<=c/\c<=maxLen:=by
 rcases h.2 with⟨rfl,rfl⟩| ⟨g,off,cap,cur,hv,hb,hg,hn,hm,hs,ht⟩
 ·exact⟨none,0,rfl,aab _,by simp[maxLen]⟩
 ·exact⟨_,_,hv,hn,hm⟩
theorem aP.of_block(h:aP w base e size v n xs)(hk:∀g,v.ownBlock=some g->w'.heap[g]? =w.heap[g]?):aP w' base e size v n xs:=by
 refine⟨h.1,?_⟩;rcases h.2 with h0| ⟨g,off,cap,cur,hv,hb,hg,rest⟩
 ·exact .inl h0
 ·exact .inr ⟨g,off,cap,cur,hv,hb,(hk g (by rw[hv];rfl)).trans hg,rest⟩
theorem aP.kept{row:Option Nat}(h:aP w base e size v n xs)(hg:w.grownBy w' row)(hne:v.ownBlock=none\/v.ownBlock≠row):aP w' base e size v n xs:=
 h.of_block fun g hv=>hg.block g (h.lt g hv).2 (by rcases hne with h0|h0<;>simp_all)
theorem aP.below{B:Nat}(h:aP w base e size v n xs)(hb:Below B w w')(hlt:∀g,v.ownBlock=some g->g<B):aP w' base e size v n xs:=
 h.of_block fun g hv=>hb.block g (hlt g hv)
theorem aP.alloc(h:aP w base e size v n xs)(o:Obj):aP (w.alloc o) base e size v n xs:=
 h.of_block fun g hv=>Below.heap_alloc w o g (h.lt g hv).2
theorem aP.drew(h:aP w base e size v n xs):aP w.drew base e size v n xs:=h
theorem aP.setCell(h:aP w base e size v n xs){p:Addr}(hp:v.ownBlock≠some p.block)(u:Value):aP (w.setCell p u) base e size v n xs:=
 h.of_block fun g hv=>Below.heap_setCell w p u g (fun e1=>hp (by rw[hv,e1]))
theorem aP.mono{base':Nat}(h:aP w base e size v n xs)(hb:base'<=base):aP w base' e size v n xs:=by
 refine⟨h.1,?_⟩;rcases h.2 with h0| ⟨g,off,cap,cur,hv,hb',rest⟩
 ·exact .inl h0
 ·exact .inr ⟨g,off,cap,cur,hv,by omega,rest⟩
theorem aP.rowAt{α:Type}{cells:α->List Value}{l:List α}(h:aP w base e size v n xs){A:Option Addr}{c:Nat}(hv:v= .slice A n c)(hxs:xs=l.flatMap cells)(hl:∀c∈l,(cells c).length=size)(hn:l.length=n):
 df size cells w w.heap.size A l:=by
 intro k x hk;have hkn:k<n:=by rw[<- hn];exact(aah.1 hk).1
 obtain⟨g,off,cap,hv',_,_,_,hlt,hc⟩:=h.form (by omega);rw[hv]at hv';cases hv'
 refine⟨g,off,rfl,hlt,fun j u hj=>?_⟩;rw[Nat.add_assoc];refine hc _ _ ?_;subst hxs;clear h hv hlt hc hkn hn
 induction l generalizing k with
 | nil=>simp at hk
 | cons y ys ih=>
  have hy:=hl y (by simp);have hjs:j<(cells x).length:=(aah.1 hj).1;rw[List.flatMap_cons]
  cases k with
  | zero=>
   simp at hk;subst hk;rw[List.getElem?_append_left (by omega),<- hj];simp
  | succ k=>
   rw[aal (by rw[hy,Nat.succ_mul];omega),hy];have:=ih (fun c hc=>hl c (by simp[hc])) k (by simpa using hk);rw[<- this];congr 1
   rw[Nat.succ_mul];omega
end
section
variable {P:Program}(w:World)
theorem Eo(t ty e:TypeId)(i:TypeInfo)(ht:P.underlying t=some (.slice e))(hi:P.info? e=some i)
 (g off sLen sCap:Nat) (cur:Array Value) (hg:w.heap[g]? =some (.cells cur e (0,0)))
 (a:Addr) (m c:Nat) (news:List Value) (hl:news.length=m*i.size) (hnews:∀j u,news[j]? =some u->w.cell? (a.add j)=some u) (h1:∀u∈news,u.oneCell'=true)
 (hroom:sLen+m<=sCap) (hfit:off+sLen*i.size+news.length<=cur.size):
 (Builtin.append_ #[t,t] ty #[.slice (some ⟨g,off,none⟩) sLen sCap,.slice (some a) m c]).run P w=
  .ok (.slice (some ⟨g,off,none⟩) (sLen+m) sCap) (w.setRow g (cur.toList.take (off+sLen*i.size)++news++cur.toList.drop (off+sLen*i.size+news.length)).toArray):=by
 have hf:=run_firstCells_some (P:=P) w i.size m a m c news hl hnews;have hst:=run_storeCells_at P g (off+sLen*i.size) e news 0 cur w hg (by simpa using hfit) h1;simp only[Nat.add_zero]at hst;simp[Builtin.append_,run_underlying ht,sizeOf,typeInfo,hi,Builtin.lenOf,hroom,hf,Addr.add_lit,hst]
theorem Ck(t e:TypeId)(i:TypeInfo)(ht:P.underlying t=some (.slice e))(hi:P.info? e=some i)(a:Option Addr)(len cap k:Nat)(hk:k<=len):
 (Instr.slice t (.slice a len cap) (some (.int .i64 (k:Int))) none none).run P w= .ok (.slice (if cap=k then a else a.map (·.add (k*i.size))) (len - k) (cap - k)) w:=by
 have h:¬len<k:=by omega
 simp[Instr.slice,run_underlying ht,Instr.sliceBounds,Instr.sliceBound,asIntOf,sizeOf,typeInfo,hi];exact fun h'=>absurd h' h
theorem EF(base:Nat)(t ty e:TypeId)(i:TypeInfo)(z:Value)(size bytes:Nat)(ht:P.underlying t=some (.slice e))(hi:P.info? e=some i)(hz:i.zero=some z)
 (hsize:i.size=size) (hby:i.bytes=bytes) (hzs:z.cells.size=size)
 (v:Value) (n:Nat) (xs:List Value) (hown:aP w base e size v n xs)
 (a:Addr) (m c:Nat) (news:List Value) (hl:news.length=m*size) (hnews:∀j u,news[j]? =some u->w.cell? (a.add j)=some u) (h1:∀u∈news,u.oneCell'=true)
 (h63:n+m<=maxLen) (hbytes:(n+m)*bytes<=140737488355328) (hbase:base<=w.heap.size):
 ∃v' w',(Builtin.append_ #[t,t] ty #[v,.slice (some a) m c]).run P w= .ok v' w'/\aP w' base e size v' (n+m) (xs++news)/\w.grownBy w' v.ownBlock /\
  (v'.ownBlock=v.ownBlock\/v'.ownBlock=some w.heap.size):=by
 subst hsize;subst hby;have hsmall:n+m<=9223372036854775807:=by simp only[maxLen]at h63;omega
 have hlen:(xs++news).length=(n+m)*i.size:=by rw[aam,hown.1,hl,Nat.add_mul]
 have grown:∀(old:Nat),old<n+m->∀(row:Option Nat),
  aP (w.drew.alloc (.cells (xs.toArray++news.toArray++Builtin.zeroCells z.cells (grownCap w (n+m) old e - (n+m))) e)) base e i.size
   (.slice (some ⟨w.heap.size,0,none⟩) (n+m) (grownCap w (n+m) old e)) (n+m) (xs++news) /\
  w.grownBy (w.drew.alloc (.cells (xs.toArray++news.toArray++Builtin.zeroCells z.cells (grownCap w (n+m) old e - (n+m))) e)) row:=by
  intro old ho row;have hge:=grownCap_ge w (n+m) old e;have hcm:grownCap w (n+m) old e<=maxLen:=grownCap_le_maxLen w (n+m) old e h63;refine⟨⟨hlen,.inr ⟨w.heap.size,0,_,_,rfl,hbase,heap_alloc_new w.drew _,hge,hcm,?_,?_⟩⟩,⟨rfl,rfl,rfl,by simp,fun k hk _=>Below.heap_alloc w.drew _ k hk⟩⟩
  ·simp only[Array.size_append,List.size_toArray,size_zeroCells,hzs,hown.1,hl,<- Nat.add_mul]
   rw[Nat.zero_add];exact Nat.mul_le_mul_right _ (by omega)
  ·simp only[Array.toList_append,List.append_assoc,List.drop_zero]
   rw[<- List.append_assoc,<- hlen];exact List.take_left
 rcases hown.2 with⟨rfl,rfl⟩| ⟨g,off,cap,cur,rfl,hbg,hg,hnc,hcm,hcs,htake⟩
 ·have hx:xs=[]:=List.eq_nil_of_length_eq_zero (by simpa using hown.1)
  subst hx;by_cases hm:m=0
  ·subst hm
   have hn:news=[]:=List.eq_nil_of_length_eq_zero (by simpa using hl);subst hn;refine⟨.slice none 0 0,w,?_,aP.nil w base e i.size,⟨rfl,rfl,rfl,aab _,fun _ _ _=>rfl⟩,.inl rfl⟩;simp[Builtin.append_,run_underlying ht,sizeOf,typeInfo,hi,Builtin.lenOf,Builtin.firstCells,loadCells,loadCellsFrom]
  ·have hr:=run_append_nil (P:=P) w t ty e i z ht hi hz a m c news hl hnews (by omega) (by omega) (by have hb:=hbytes;simp only[Nat.zero_add]at hb;omega)
   have hgr:=grown 0 (by omega) (Value.ownBlock (.slice none 0 0));simp only[Nat.zero_add,List.nil_append,Array.empty_append]at hgr⊢;exact⟨_,_,hr,hgr.1,hgr.2,.inr rfl⟩
 ·by_cases hroom:n+m<=cap
  ·have hfit:off+n*i.size+news.length<=cur.size:=by
    rw[hl];have h2:(n+m)*i.size<=cap*i.size:=Nat.mul_le_mul_right _ hroom;rw[Nat.add_mul]at h2;omega
   have hr:=Eo (P:=P) w t ty e i ht hi g off n cap cur hg a m c news hl hnews h1 hroom hfit;refine⟨_,_,hr,⟨hlen,.inr ⟨g,off,cap,_,rfl,hbg,setRow_heap w g cur _ e _ hg,hroom,hcm,?_,?_⟩⟩,⟨rfl,rfl,rfl,by simp,fun k _ hk=>setRow_other w g k _ (fun e=>hk (by simp[Value.ownBlock,e]))⟩,.inl rfl⟩
   ·simp only[List.size_toArray,aam,List.length_take,List.length_drop,Array.length_toList]
    omega
   ·rw[<- htake,Nat.add_mul,<- hl]
    have hoff:off<=(cur.toList.take (off+n*i.size)).length:=by simp;omega
    rw[List.append_assoc,List.drop_append_of_le_length hoff,List.drop_take,Nat.add_sub_cancel_left];have hk:(List.take (n*i.size) (List.drop off cur.toList)).length=n*i.size:=by simp;omega
    rw[<- List.append_assoc];exact List.take_left' (by rw[aam,hk])
  ·have holds:∀j u,xs[j]? =some u->w.cell? ((⟨g,off,none⟩:Addr).add j)=some u:=by
    intro j u hu;have hjn:j<n*i.size:=by rw[<- hown.1];exact(aah.1 hu).1
    have hn0:0<n:=Nat.pos_of_ne_zero (by rintro rfl;simp at hjn);obtain⟨g',off',cap',hv',_,_,_,_,hc⟩:=hown.form hn0;cases hv'
    rw[Addr.add_lit];exact hc j u hu
   have hr:=run_append_grow (P:=P) w t ty e i z ht hi hz ⟨g,off,none⟩ n cap xs hown.1 holds a m c news hl hnews (by omega) (by omega) (growslice_fits (by omega) hbytes);have hgr:=grown cap (by omega) (Value.ownBlock (.slice (some ⟨g,off,none⟩) n cap));exact⟨_,_,hr,hgr.1,hgr.2,.inr rfl⟩
theorem jI{o:Oper}{a:Act}{K:Act->World->Prop}{Q:Exit->Act->World->Prop}(s x:Operand)(t:TypeId)
 (ho:o.op= .call { callee:=.builtin .append,args:=#[s,x],argTypes:=#[t,t] })
 (base:Nat) (e:TypeId) (i:TypeInfo) (z:Value) (size bytes:Nat) (ht:P.underlying t=some (.slice e)) (hi:P.info? e=some i) (hz:i.zero=some z)
 (hsize:i.size=size) (hby:i.bytes=bytes) (hzs:z.cells.size=size)
 (v:Value) (n:Nat) (xs:List Value) (hs:a.eval s=v) (hown:aP w base e size v n xs)
 (ad:Addr) (m c:Nat) (news:List Value) (hx:a.eval x= .slice (some ad) m c) (hl:news.length=m*size) (hnews:∀j u,news[j]? =some u->w.cell? (ad.add j)=some u) (h1:∀u∈news,u.oneCell'=true)
 (h63:n+m<=maxLen) (hbytes:(n+m)*bytes<=140737488355328) (hbase:base<=w.heap.size)
 (h:∀v' w',aP w' base e size v' (n+m) (xs++news)->w.grownBy w' v.ownBlock->(v'.ownBlock=v.ownBlock\/v'.ownBlock=some w.heap.size)->K (a.put o.dst v') w'):o.wp P a w K Q:=by
 obtain⟨v',w',hr,h2,h3,h4⟩:=EF (P:=P) w base t o.type e i z size bytes ht hi hz hsize hby hzs v n xs hown ad m c news hl hnews h1 h63 hbytes hbase;unfold Oper.wp execOp;simp only[ho,resolve,invoke,builtin,Sem.run_bind,Sem.run_pure,Result.andThen_ok,List.map_toArray,List.map_cons,List.map_nil,hs,hx,hr];exact h v' w' h2 h3 h4
theorem dP{ops:Array Oper}{rest:List Oper}{o:Oper}{a:Act}{Q:Exit->Act->World->Prop}(hgd:o.guard=none)(s x:Operand)(t:TypeId)
 (ho:o.op= .call { callee:=.builtin .append,args:=#[s,x],argTypes:=#[t,t] })
 (base:Nat) (e:TypeId) (i:TypeInfo) (z:Value) (size bytes:Nat) (ht:P.underlying t=some (.slice e)) (hi:P.info? e=some i) (hz:i.zero=some z)
 (hsize:i.size=size) (hby:i.bytes=bytes) (hzs:z.cells.size=size)
 (v:Value) (n:Nat) (xs:List Value) (hs:a.eval s=v) (hown:aP w base e size v n xs)
 (ad:Addr) (m c:Nat) (news:List Value) (hx:a.eval x= .slice (some ad) m c) (hl:news.length=m*size) (hnews:∀j u,news[j]? =some u->w.cell? (ad.add j)=some u) (h1:∀u∈news,u.oneCell'=true)
 (h63:n+m<=maxLen) (hbytes:(n+m)*bytes<=140737488355328) (hbase:base<=w.heap.size)
 (h:∀v' w',aP w' base e size v' (n+m) (xs++news)->w.grownBy w' v.ownBlock->(v'.ownBlock=v.ownBlock\/v'.ownBlock=some w.heap.size)->wpList P ops Q rest (a.put o.dst v') w'):wpList P ops Q (o::rest) a w:=
 wpList_plain hgd fun _ hK=>jI w s x t ho base e i z size bytes ht hi hz hsize hby hzs v n xs hs hown ad m c news hx hl hnews h1 h63 hbytes hbase fun v' w' h2 h3 h4=>hK _ _ (h v' w' h2 h3 h4)
end
end Go.Proofs.YtoepemlnlpamlaaGreat
