/- The law NamesResolves holds where what it reads is of bulk at most 1048576: it returns true, and its argument reads as before. Part 1: LexM ParM NamM Ord1. -/
set_option maxRecDepth 100000
set_option maxHeartbeats 4000000
namespace Go.Proofs.YtoepemlnlpamlaaGreat
abbrev abE:=@Nat.le_refl
abbrev abF:=@Nat.le_trans
abbrev abG:=@Bool.and_eq_true
abbrev abH:=@Array.getElem?_eq_some_iff
abbrev abI:=@List.getElem?_eq_getElem
abbrev abJ:=@Option.some.injEq
abbrev abK:=@List.getElem?_eq_some_iff
abbrev abL:=@List.getElem?_cons_zero
abbrev abM:=@List.getElem?_cons_succ
abbrev abN:=@List.getElem?_toArray
abbrev abO:=@List.getElem?_append_right
abbrev abP:=@List.length_append
abbrev abQ:=@List.mem_of_getElem?
abbrev abR:=@List.length_cons
abbrev aZ:=List UInt8
def aX(l:aZ):ByteArray:=⟨l.toArray⟩
def bz(s:aZ)(i:Nat):Nat:=(s.getD i 0).toNat
def tQ(s:aZ)(a b:Nat):aZ:=(s.drop a).take (b - a)
def j5(c:Nat):Bool:=decide (97<=c)&&decide (c<=122)
def fP(c:Nat):Bool:=decide (48<=c)&&decide (c<=57)
def rz(c:Nat):Bool:=decide (c=9) || decide (c=10) || decide (c=13) || decide (c=32)
def wO(c:Nat):Bool:=j5 c || fP c || decide (c=95)
def QF:List aZ:=[[114,101,99,111,114,100],[112,114,111,99],[118,97,114],[105,102],[101,108,115,101],[119,104,105,108,101],[102,111,114],[116,111],[114,101,116,117,114,110],[97,115,115,101,114,116],[97,110,100],[111,114],[110,111,116],[116,114,117,101],[102,97,108,115,101],[105,110,116],[98,111,111,108],[108,101,110]]
def Pw:List aZ:=[[61,61],[33,61],[60,61],[62,61]]
def Ho:List aZ:=[[60],[62],[61],[43],[45],[42],[47],[37],[40],[41],[123],[125],[91],[93],[44],[59],[58],[46]]
def sK(l:List aZ)(s:aZ):Bool:=l.any fun x=>decide (x=s)
def Ip(s:aZ):Bool:=sK QF s
def xM(s:aZ)(at_:Nat):Nat:=
 if decide (at_+2<=s.length)&&sK Pw (tQ s at_ (at_+2)) then 2 else if sK Ho (tQ s at_ (at_+1)) then 1 else 0
def uK(s:aZ)(at_:Nat):Bool:=j5 (bz s at_) || fP (bz s at_) || decide (0<xM s at_)
def iD(p:Nat->Bool):aZ->Nat->Nat->Nat
 | _,0,a=>a
 | s,f+1,a=>if decide (a<s.length)&&p a then iD p s f (a+1) else a
def j4(s:aZ):Nat->Nat->Nat
 | 0,a=>a
 | f+1,a=>if decide (a<s.length)&&(rz (bz s a) || decide (bz s a=35)) then(if bz s a=35 then j4 s f (iD (fun i=> !decide (bz s i=10)) s s.length a) else j4 s f (a+1)) else a
def gI(s:aZ)(a:Nat):Nat×Nat:=
 if j5 (bz s a) then
  (if Ip (tQ s a (iD (fun i=>wO (bz s i)) s s.length a)) then 1 else 0,iD (fun i=>wO (bz s i)) s s.length a)
 else if fP (bz s a) then(2,iD (fun i=>fP (bz s i)) s s.length a)
 else if 0<xM s a then(3,a+xM s a)
 else(4,iD (fun i=> !rz (bz s i)&& !decide (bz s i=35)&& !uK s i) s s.length a)
structure jY where
 kind:Nat
 from_:Nat
 at_:Nat
 end_:Nat
deriving DecidableEq
def uB(s:aZ):Nat->Nat->List jY
 | 0,_=>[]
 | f+1,from_=>
  let a:=j4 s (s.length+1) from_
  if s.length<=a then [⟨5,from_,a,a⟩] else⟨(gI s a).1,from_,a,(gI s a).2⟩::uB s f (gI s a).2
def qY(s:aZ):List jY:=uB s (s.length+1) 0
def xR:aZ->Nat->Option Nat
 | [],n=>some n
 | c::r,n=>if fP c.toNat then xR r (10*n+(c.toNat - 48)) else none
def fT(s:aZ):Option Nat:=if s.length<1\/9<s.length then none else xR s 0
def qR(s:aZ):Bool:=decide (1<=s.length)&&decide (s.length<=16)&&j5 (bz s 0)&& !Ip s&&decide ((gI s 0).2=s.length)
section
variable {p:Nat->Bool}{s:aZ}
theorem GN:∀(f a0 a:Nat),a0<=a->a<=s.length->(∀j,a0<=j->j<a->p j=true)->(a<s.length->p a=false)->s.length<=f+a0->iD p s f a0=a:=by
 intro f
 induction f with
 | zero=>
  intro a0 a h1 h2 _ _ h5;have:a0=a:=by omega
  subst this;rfl
 | succ f ih=>
  intro a0 a h1 h2 h3 h4 h5;unfold iD;by_cases h:a0=a
  ·subst h
   by_cases hl:a0<s.length
   ·rw[h4 hl];simp
   ·simp[hl]
  ·have hp:=h3 a0 (abE _) (by omega)
   rw[hp,decide_eq_true (by omega:a0<s.length),Bool.and_true,if_pos rfl];exact ih (a0+1) a (by omega) h2 (fun j hj hj2=>h3 j (by omega) hj2) h4 (by omega)
theorem Fu:∀(f a0:Nat),a0<=s.length->s.length<=f+a0 ->
 a0<=iD p s f a0/\iD p s f a0<=s.length/\(∀j,a0<=j->j<iD p s f a0->p j=true)/\(iD p s f a0<s.length->p (iD p s f a0)=false):=by
 intro f
 induction f with
 | zero=>
  intro a0 h1 h2;have:a0=s.length:=by omega
  subst this;exact⟨abE _,abE _,fun j h3 h4=>by simp only[iD]at h4;omega,fun h3=>by simp only[iD]at h3;omega⟩
 | succ f ih=>
  intro a0 h1 h2;unfold iD;by_cases h:(decide (a0<s.length)&&p a0)=true
  ·rw[if_pos h]
   simp at h;obtain⟨i1,i2,i3,i4⟩:=ih (a0+1) (by omega) (by omega);refine⟨by omega,i2,fun j h3 h4=>?_,i4⟩;by_cases hj:j=a0
   ·subst hj;exact h.2
   ·exact i3 j (by omega) h4
  ·rw[if_neg h]
   refine⟨abE _,h1,fun j h3 h4=>by omega,fun h3=>?_⟩;simp at h;exact h h3
theorem GM{a:Nat}(h:a<s.length)(hp:p a=true):a<iD p s s.length a:=by
 obtain⟨i1,i2,i3,i4⟩:=Fu (p:=p) (s:=s) s.length a (by omega) (by omega);rcases Nat.lt_or_ge a (iD p s s.length a) with h1|h1
 ·exact h1
 ·have:iD p s s.length a=a:=by omega
  rw[this]at i4;rw[i4 h]at hp;cases hp
theorem DF:∀(f a:Nat),a<=s.length->s.length<f+a->a<=j4 s f a/\j4 s f a<=s.length/\(j4 s f a<s.length->rz (bz s (j4 s f a))=false/\bz s (j4 s f a)≠35):=by
 intro f
 induction f with
 | zero=>intro a h1 h2;omega
 | succ f ih=>
  intro a h1 h2;unfold j4;by_cases h:(decide (a<s.length)&&(rz (bz s a) || decide (bz s a=35)))=true
  ·rw[if_pos h]
   simp at h;by_cases uN:bz s a=35
   ·rw[if_pos uN]
    have hr:=GM (p:=fun i=> !decide (bz s i=10)) h.1 (by simp[uN]);have hr2:=(Fu (p:=fun i=> !decide (bz s i=10)) (s:=s) s.length a h1 (by omega)).2.1;have:=ih _ hr2 (by omega);exact⟨by omega,this.2⟩
   ·rw[if_neg uN]
    have:=ih (a+1) (by omega) (by omega);exact⟨by omega,this.2⟩
  ·rw[if_neg h]
   refine⟨abE _,h1,fun h3=>?_⟩;simp[h3]at h;exact h
theorem symM_le(a:Nat):xM s a<=2:=by unfold xM;split<;>(try split)<;>omega
theorem ZU{a:Nat}(h:a<s.length):a+xM s a<=s.length:=by
 unfold xM;split
 ·rename_i h1
  simp at h1;omega
 ·split<;>omega
theorem Cb{a:Nat}(h:a<s.length)(hb:rz (bz s a)=false)(uN:bz s a≠35):a<(gI s a).2/\(gI s a).2<=s.length/\(gI s a).1<=4:=by
 have hle:=fun p=>(Fu (p:=p) (s:=s) s.length a (by omega) (by omega)).2.1
 unfold gI;by_cases h1:j5 (bz s a)=true
 ·rw[if_pos h1]
  refine⟨GM h (by simp[wO,h1]),hle _,?_⟩;simp only;split<;>omega
 ·rw[if_neg h1]
  by_cases h2:fP (bz s a)=true
  ·rw[if_pos h2]
   exact⟨GM h h2,hle _,by simp⟩
  ·rw[if_neg h2]
   by_cases h3:0<xM s a
   ·rw[if_pos h3]
    exact⟨by simp only;omega,ZU h,by simp⟩
   ·rw[if_neg h3]
    refine⟨GM h ?_,hle _,by simp⟩;simp[hb,uN,uK,h1,h2,h3]
end
inductive ae where
 | node (k:Int) (t:ByteArray) (a e:Int) (kids:List ae)
def ae.kind:ae->Int| .node k _ _ _ _=>k
def ae.text:ae->ByteArray| .node _ t _ _ _=>t
def ae.at_:ae->Int| .node _ _ a _ _=>a
def ae.end_:ae->Int| .node _ _ _ e _=>e
def ae.kids:ae->List ae| .node _ _ _ _ l=>l
structure Dg where
 code:Int
 at_:Int
 end_:Int
 text:ByteArray
structure PS where
 k:Nat
 last:Nat
 ds:List Dg
section
variable (s:aZ) (l:List jY)
def ZQ:jY:=⟨5,0,0,0⟩
def iy(k:Nat):jY:=l.getD k ZQ
def Bq(t:jY):aZ:=tQ s t.at_ t.end_
def bK(k:Nat):aZ:=Bq s (iy l k)
def bM(p:PS):Nat:=(iy l p.k).kind
def og(p:PS):aZ:=if p.k+1<l.length then bK s l (p.k+1) else []
def ay(p:PS):PS:=⟨p.k+1,(iy l p.k).end_,p.ds⟩
def iE(p:PS)(code:Int)(text:aZ):PS:=
 match p.ds.getLast? with
 | some d=>if d.at_=((iy l p.k).at_:Int) then p else { p with ds:=p.ds++[⟨code,(iy l p.k).at_,(iy l p.k).end_,aX text⟩] }
 | none=> { p with ds:=p.ds++[⟨code,(iy l p.k).at_,(iy l p.k).end_,aX text⟩] }
def bE(p:PS)(w:aZ):Bool:=decide (bM l p≠5)&&decide (bK s l p.k=w)
def bI(p:PS)(w:aZ):PS:=if bE s l p w then ay l p else p
def aI(p:PS)(w:aZ):PS:=if bE s l p w then ay l p else iE l p 4 w
def cK(p:PS):aZ:=if bM l p=0 then bK s l p.k else []
def dI(p:PS):PS:=if bM l p=0 then ay l p else iE l p 4 [110,97,109,101]
def gB:aZ->aZ
 | 48::c::r=>gB (c::r)
 | x=>x
def bO(p:PS)(first:Nat)(kids:List ae):Int:=
 let a:Int:=if first<p.k then((iy l first).at_:Int) else(p.last:Int)
 match kids with
 | []=>a
 | t::_=>if t.at_<a then t.at_ else a
def aH(p:PS)(first:Nat)(kind:Int)(text:aZ)(kids:List ae):ae:=.node kind (aX text) (bO l p first kids) p.last kids
def tO(p:PS):ae×PS:=
 if bE s l p [98,111,111,108] then(aH l (ay l p) p.k 9 [98,111,111,108] [],ay l p)
 else if bE s l p [105,110,116] then
  let p1:=ay l p
  if bE s l p1 [91] then
   let p2:=ay l p1
   let p4:=if bM l p2=2 then aI s l (ay l p2) [93] else aI s l (iE l p2 4 [110,117,109,98,101,114]) [93]
   (aH l p4 p.k 10 (if bM l p2=2 then gB (bK s l p2.k) else []) [],p4)
  else(aH l p1 p.k 9 [105,110,116] [],p1)
 else if bM l p=0 then(aH l (ay l p) p.k 9 (bK s l p.k) [],ay l p)
 else(aH l (iE l p 4 [116,121,112,101]) p.k 1 [] [],iE l p 4 [116,121,112,101])
def jB(p:PS):ae×PS:=if bE s l p [58] then tO s l (ay l p) else(aH l p p.k 0 [] [],p)
def kK(p:PS):ae×PS:=
 let p1:=aI s l (dI l p) [58]
 if bE s l p1 [105,110,116] || bE s l p1 [98,111,111,108] then
  (aH l (ay l p1) p.k 4 (cK s l p) [aH l (ay l p1) p1.k 9 (bK s l p1.k) []],ay l p1)
 else
  let p2:=iE l p1 4 [116,121,112,101]
  (aH l p2 p.k 4 (cK s l p) [aH l p2 p1.k 1 [] []],p2)
def nZ:Nat->PS->List ae->Option (List ae×PS)
 | 0,_,_=>none
 | f+1,p,kids=>if bE s l p [44] then nZ f (kK s l (ay l p)).2 (kids++[(kK s l (ay l p)).1]) else some (kids,p)
def o7(f:Nat)(p:PS):Option (ae×PS):=
 let p1:=dI l (ay l p)
 let p2:=aI s l p1 [123]
 match nZ s l f (kK s l p2).2 [(kK s l p2).1] with
 | none=>none
 | some (kids,p3)=>some (aH l (aI s l p3 [125]) p.k 3 (cK s l (ay l p)) kids,aI s l p3 [125])
def iK(p:PS):ae×PS:=
 let p1:=bI s l p [118,97,114]
 let r:=jB s l (dI l p1)
 (aH l r.2 p.k (if bE s l p [118,97,114] then 8 else 7) (cK s l p1) [r.1],r.2)
def lL:Nat->PS->List ae->Option (List ae×PS)
 | 0,_,_=>none
 | f+1,p,kids=>if bE s l p [44] then lL f (iK s l (ay l p)).2 (kids++[(iK s l (ay l p)).1]) else some (kids,p)
def sW(f:Nat)(p:PS):Option (ae×PS):=
 let p1:=aI s l p [40]
 match (if bE s l p1 [41] then some ([],p1) else lL s l f (iK s l p1).2 [(iK s l p1).1]) with
 | none=>none
 | some (kids,p2)=>some (aH l (aI s l p2 [41]) p.k 6 [] kids,aI s l p2 [41])
def ny(p:PS):ae×PS:=(aH l (dI l p) p.k 20 (cK s l p) [],dI l p)
def lZ(p:PS):Bool:=decide (bM l p=5) || bE s l p [125] || bE s l p [112,114,111,99] || bE s l p [114,101,99,111,114,100]
def Dl:List aZ:=[[118,97,114],[105,102],[119,104,105,108,101],[102,111,114],[114,101,116,117,114,110],[97,115,115,101,114,116]]
def zS(p:PS):Bool:=decide (bM l p=1)&&sK Dl (bK s l p.k)
def sD(first:Nat):Nat->PS->Option PS
 | 0,_=>none
 | f+1,p=>
  if !lZ s l p&&(decide (p.k=first) || !zS s l p) then
   (if bK s l p.k=[59] then some (ay l p) else sD first f (ay l p))
  else some p
def sw(f:Nat)(p:PS):Option (ae×PS):=
 match sD s l p.k f (iE l p 6 []) with
 | none=>none
 | some p1=>some (aH l p1 p.k 1 [] [],p1)
def Aj(lv:Nat):List aZ:=
 if lv=1 then [[111,114]] else if lv=2 then [[97,110,100]] else if lv=4 then [[61,61],[33,61],[60],[60,61],[62],[62,61]] else if lv=5 then [[43],[45]] else if lv=6 then [[42],[47],[37]] else []
def yu(p:PS)(lv:Nat):Bool:=decide (bM l p≠5)&&sK (Aj lv) (bK s l p.k)
def DJ(p:PS):Bool:=decide (bM l p=0) || decide (bM l p=2) || bE s l p [116,114,117,101] || bE s l p [102,97,108,115,101] || bE s l p [108,101,110] || bE s l p [40] || bE s l p [91]
inductive Fn where
 | expr (lv:Nat)
 | xu (lv first:Nat) (x:ae)
 | operand
 | args
 | qC (kids:List ae)
 | place
 | stmt
 | block
 | sS (kids:List ae)
 | branch
def qw(r:Option (List ae×PS))(f:ae->PS->Option (List ae×PS)):Option (List ae×PS):=
 match r with
 | some ([x],p)=>f x p
 | _=>none
def Ck(r:Option (List ae×PS))(f:List ae->PS->Option (List ae×PS)):Option (List ae×PS):=
 match r with
 | some (x,p)=>f x p
 | none=>none
def aN:Nat->Fn->PS->Option (List ae×PS)
 | 0,_,_=>none
 | f+1,.expr lv,p=>
  if lv=3 then
   (if bE s l p [110,111,116] then qw (aN f (.expr 3) (ay l p)) fun x q=>some ([aH l q p.k 28 [110,111,116] [x]],q) else aN f (.expr 4) p)
  else if lv=7 then
   (if bE s l p [45] then qw (aN f (.expr 7) (ay l p)) fun x q=>some ([aH l q p.k 28 [45] [x]],q) else aN f .operand p)
  else qw (aN f (.expr (lv+1)) p) fun x q=>aN f (.xu lv p.k x) q
 | f+1,.xu lv first x,p=>
  if yu s l p lv then
   qw (aN f (.expr (lv+1)) (ay l p)) fun y q=>
    let z:=aH l q first 29 (bK s l p.k) [x,y]
    if lv=4 then some ([z],q) else aN f (.xu lv first z) q
  else some ([x],p)
 | f+1,.operand,p=>
  if bM l p=2 then some ([aH l (ay l p) p.k 24 (gB (bK s l p.k)) []],ay l p)
  else if bE s l p [116,114,117,101] || bE s l p [102,97,108,115,101] then some ([aH l (ay l p) p.k 25 (bK s l p.k) []],ay l p)
  else if decide (bM l p=0)&&decide (og s l p=[40]) then
   Ck (aN f .args (ay l p)) fun kids q=>some ([aH l q p.k 27 (bK s l p.k) kids],q)
  else if bM l p=0 then aN f .place p
  else if bE s l p [91] then
   qw (aN f (.expr 1) (ay l p)) fun x q=>Ck (aN f (.qC [x]) q) fun kids q2=>some ([aH l (aI s l q2 [93]) p.k 26 [] kids],aI s l q2 [93])
  else if bE s l p [108,101,110] then
   let p1:=aI s l (ay l p) [40]
   let p2:=aI s l (ny s l p1).2 [41]
   some ([aH l p2 p.k 23 [] [(ny s l p1).1]],p2)
  else if bE s l p [40] then qw (aN f (.expr 1) (ay l p)) fun x q=>some ([x],aI s l q [41])
  else some ([aH l (iE l p 5 []) p.k 1 [] []],iE l p 5 [])
 | f+1,.args,p=>
  let p1:=ay l p
  if bE s l p1 [41] then some ([],aI s l p1 [41])
  else qw (aN f (.expr 1) p1) fun x q=>Ck (aN f (.qC [x]) q) fun kids q2=>some (kids,aI s l q2 [41])
 | f+1,.qC kids,p=>
  if bE s l p [44] then qw (aN f (.expr 1) (ay l p)) fun x q=>aN f (.qC (kids++[x])) q else some (kids,p)
 | f+1,.place,p=>
  let x:=(ny s l p).1
  let p1:=(ny s l p).2
  if bE s l p1 [91] then qw (aN f (.expr 1) (ay l p1)) fun y q=>some ([aH l (aI s l q [93]) p.k 21 [] [x,y]],aI s l q [93])
  else if bE s l p1 [46] then some ([aH l (dI l (ay l p1)) p.k 22 (cK s l (ay l p1)) [x]],dI l (ay l p1))
  else some ([x],p1)
 | f+1,.stmt,p=>
  if bE s l p [118,97,114] then
   let p1:=ay l p
   let r:=jB s l (dI l p1)
   qw (aN f (.expr 1) (aI s l r.2 [61])) fun x q=>some ([aH l (aI s l q [59]) p.k 12 (cK s l p1) [r.1,x]],aI s l q [59])
  else if bE s l p [105,102] then aN f .branch p
  else if bE s l p [119,104,105,108,101] then
   qw (aN f (.expr 1) (ay l p)) fun c q=>qw (aN f .block q) fun b q2=>some ([aH l q2 p.k 15 [] [c,b]],q2)
  else if bE s l p [102,111,114] then
   let p1:=ay l p
   qw (aN f (.expr 1) (aI s l (dI l p1) [61])) fun x q=>qw (aN f (.expr 1) (aI s l q [116,111])) fun y q2=>qw (aN f .block q2) fun b q3=>some ([aH l q3 p.k 16 (cK s l p1) [x,y,b]],q3)
  else if bE s l p [114,101,116,117,114,110] then
   let p1:=ay l p
   if DJ s l p1 || bE s l p1 [110,111,116] || bE s l p1 [45] then qw (aN f (.expr 1) p1) fun x q=>some ([aH l (aI s l q [59]) p.k 17 [] [x]],aI s l q [59])
   else some ([aH l (aI s l p1 [59]) p.k 17 [] [aH l p1 p1.k 0 [] []]],aI s l p1 [59])
  else if bE s l p [97,115,115,101,114,116] then
   qw (aN f (.expr 1) (ay l p)) fun x q=>some ([aH l (aI s l q [59]) p.k 18 [] [x]],aI s l q [59])
  else if decide (bM l p=0)&&decide (og s l p=[40]) then
   Ck (aN f .args (ay l p)) fun kids q=>some ([aH l (aI s l q [59]) p.k 19 (bK s l p.k) kids],aI s l q [59])
  else if bM l p=0 then
   qw (aN f .place p) fun x q=>qw (aN f (.expr 1) (aI s l q [61])) fun y q2=>some ([aH l (aI s l q2 [59]) p.k 13 [] [x,y]],aI s l q2 [59])
  else match sw s l f p with
   | none=>none
   | some (x,q)=>some ([x],q)
 | f+1,.block,p=>
  if bE s l p [123] then
   Ck (aN f (.sS []) (ay l p)) fun kids q=>some ([aH l (aI s l q [125]) p.k 11 [] kids],aI s l q [125])
  else some ([aH l (iE l p 4 [123]) p.k 11 [] []],iE l p 4 [123])
 | f+1,.sS kids,p=>
  if lZ s l p then some (kids,p) else qw (aN f .stmt p) fun x q=>aN f (.sS (kids++[x])) q
 | f+1,.branch,p=>
  qw (aN f (.expr 1) (ay l p)) fun c q=>qw (aN f .block q) fun b q2=>
   if bE s l q2 [101,108,115,101] then
    (if bE s l (ay l q2) [105,102] then qw (aN f .branch (ay l q2)) fun o q3=>some ([aH l q3 p.k 14 [] [c,b,o]],q3)
    else qw (aN f .block (ay l q2)) fun o q3=>some ([aH l q3 p.k 14 [] [c,b,o]],q3))
   else some ([aH l q2 p.k 14 [] [c,b,aH l q2 q2.k 0 [] []]],q2)
def uD(f:Nat)(p:PS):Option (ae×PS):=
 let p1:=dI l (ay l p)
 match sW s l f p1 with
 | none=>none
 | some (x,p2)=>
  let r:=jB s l p2
  match aN s l f .block r.2 with
  | some ([b],p3)=>some (aH l p3 p.k 5 (cK s l (ay l p)) [x,r.1,b],p3)
  | _=>none
def mX:Nat->PS->Option PS
 | 0,_=>none
 | f+1,p=>if decide (bM l p≠5)&& !bE s l p [114,101,99,111,114,100]&& !bE s l p [112,114,111,99] then mX f (ay l p) else some p
def mf:Nat->PS->List ae->Option (List ae×PS)
 | 0,_,_=>none
 | f+1,p,kids=>
  if bM l p=5 then some (kids,p)
  else if bE s l p [114,101,99,111,114,100] then(match o7 s l f p with|none=>none|some (x,q)=>mf f q (kids++[x]))
  else if bE s l p [112,114,111,99] then(match uD s l f p with|none=>none|some (x,q)=>mf f q (kids++[x]))
  else match mX s l f (iE l p 7 []) with
   | none=>none
   | some q=>mf f q (kids++[aH l q p.k 1 [] []])
end
def pz(s:aZ):List jY:=(qY s).filter fun t=>decide (t.kind≠4)
def tu(s:aZ)(t:jY):Int:=
 if t.kind=4 then 1 else if t.kind=2/\(fT (Bq s t)).isNone=true then 2 else if t.kind=0/\16<(t.end_:Int) - t.at_ then 3 else 0
def iF(s:aZ):List Dg:=(qY s).filterMap fun t=>if 0<tu s t then some ⟨tu s t,t.at_,t.end_,aX []⟩ else none
def ib:List Dg->List Dg->List Dg
 | [],b=>b
 | a,[]=>a
 | x::a,y::b=>if x.at_<=y.at_ then x::ib a (y::b) else y::ib (x::a) b
termination_by a b=>a.length+b.length
def sP(f:Nat)(s:aZ):Option (ae×List Dg):=
 match mf s (pz s) f ⟨0,0,[]⟩ [] with
 | none=>none
 | some (kids,p)=>some (.node 2 (aX []) 0 s.length kids,ib (iF s) p.ds)
structure Dc where
 kind:Int
 name:ByteArray
 node:Int
 owner:Int
 deriving DecidableEq
abbrev kP:=List (ByteArray×Int)
abbrev aQ:=List kP
def bG{K V:Type}[DecidableEq K]:List (K×V)->K->Option V
 | [],_=>none
 | x::l,k=>if k=x.1 then some x.2 else bG l k
def cZ{K V:Type}[DecidableEq K]:List (K×V)->K->V->List (K×V)
 | [],k,v=>[(k,v)]
 | x::l,k,v=>if k=x.1 then(k,v)::l else x::cZ l k v
abbrev aT(l:kP)(n:ByteArray):Option Int:=bG l n
def eP:aQ->ByteArray->Option Int
 | [],_=>none
 | x::s,n=>match aT x n with|some k=>some k|none=>eP s n
def ak(s:aQ):List Int:=s.flatMap fun l=>l.map (·.2)
def aj(l:List Int):List Int:=l.mergeSort fun a b=>decide (a<=b)
def kr(s:aQ)(l:kP):aQ:=
 match s with
 | []=>[]
 | x::s=>(l.foldl (fun a y=>cZ a y.1 y.2) x)::s
structure bf where
 globals:kP
 fields:kP
 kinds:List (Int×Int)
mutual
def au:ae->Nat
 | .node _ _ _ _ kids=>1+aG kids
def aG:List ae->Nat
 | []=>0
 | t::ts=>au t+aG ts
end
def lM(l:kP)(n:ByteArray)(k:Int):kP:=if (aT l n).isSome then l else cZ l n k
def jT:List ae->Nat->kP->kP
 | [],_,l=>l
 | f::fs,at_,l=>jT fs (at_+au f) (if f.kind=4 then lM l f.text at_ else l)
def lJ:List ae->Nat->bf->bf
 | [],_,g=>g
 | k::ks,n,g=>lJ ks (n+au k) ⟨lM g.globals k.text n,jT k.kids (n+1) g.fields,cZ g.kinds (n:Int) k.kind⟩
def dG(t:ae):bf:=lJ t.kids 1 ⟨[],[],[]⟩
structure RS where
 ds:List Dc
 uses:List Int
 aS:List (Int×List Int)
 aW:List (Int×Dg)
 next:Nat
 owner:Int
def qg(r:RS)(code:Int)(n:Nat)(t:ae):RS:={ r with aW:=r.aW++[((n:Int),⟨code,t.at_,t.end_,t.text⟩)] }
def kU(r:RS)(kind:Int)(n:Nat)(t:ae):RS:=
 { r with ds:=r.ds++[⟨kind,t.text,n,if kind=0\/kind=2 then -1 else r.owner⟩],uses:=r.uses.set n (n:Int) }
def aU(r:RS)(kind:Int)(n:Nat)(t:ae)(already:Bool):RS:=if already then qg r 9 n t else kU r kind n t
def aD(G:bf)(r:RS)(kind:Int)(n:Nat)(t:ae)(s:aQ):RS×aQ:=
 if (eP s t.text).isSome || (aT G.globals t.text).isSome then(qg r 9 n t,s) else(kU r kind n t,kr s [(t.text,(n:Int))])
def gT(r:RS)(n:Nat)(t:ae)(Fe:Option Int):RS:=
 match Fe with
 | none=>qg r 8 n t
 | some k=> { r with uses:=r.uses.set n k }
def jw(G:bf)(k:Int):Int:=(bG G.kinds k).getD 0
def dJ(t:ByteArray):Bool:=decide (t=⟨#[105,110,116]⟩) || decide (t=⟨#[98,111,111,108]⟩)
mutual
def aJ(G:bf)(inside:Bool):ae->aQ->RS->RS×aQ
 | .node k x a e kids,s,r0=>
  let t:ae:=.node k x a e kids
  let n:=r0.next
  let r:RS:={ r0 with next:=n+1,aS:=if inside then cZ r0.aS (n:Int) (aj (ak s)) else r0.aS }
  let Fe:=(aT G.globals x).getD 0
  if k=3 then ah G inside kids 0 kids.length s { aU r 0 n t (decide (Fe≠n)) with owner:=n }
  else if k=4 then ah G inside kids 0 kids.length s (aU r 1 n t (decide ((aT G.fields x).getD 0≠n)))
  else if k=5 then
   let r1:RS:={ aU r 2 n t (decide (Fe≠n)) with owner:=n }
   let q:=ah G false kids 0 2 [[]] r1
   ((ah G true kids 2 1 ([]::q.2) q.1).1,s)
  else if k=7\/k=8 then
   let q:=aD G r 3 n t s
   ah G inside kids 0 kids.length q.2 q.1
  else if k=11 then
   let q:=ah G inside kids 0 kids.length ([]::s) r
   (q.1,q.2.tail)
  else if k=12 then
   let q:=aD G r 4 n t ([]::s)
   let q2:=ah G inside kids 0 2 s q.1
   (q2.1,kr q2.2 (q.2.headD []))
  else if k=16 then
   let q:=aD G r 5 n t ([]::s)
   let q2:=ah G inside kids 0 2 s q.1
   let q3:=ah G inside kids 2 1 (q.2.headD []::q2.2) q2.1
   (q3.1,q3.2.tail)
  else
   let r1:=if k=20 then gT r n t (eP s x)
    else if k=22 then gT r n t (aT G.fields x)
    else if k=27 then gT r n t (aT G.globals x)
    else if k=19 then gT r n t ((aT G.globals x).filter fun j=>decide (jw G j=5))
    else if k=9/\dJ x=false then gT r n t ((aT G.globals x).filter fun j=>decide (jw G j=3))
    else r
   ah G inside kids 0 kids.length s r1
def ah(G:bf)(inside:Bool):List ae->Nat->Nat->aQ->RS->RS×aQ
 | [],_,_,s,r=>(r,s)
 | _::ts,from_+1,n,s,r=>ah G inside ts from_ n s r
 | _::_,0,0,s,r=>(r,s)
 | t::ts,0,n+1,s,r=>
  let q:=aJ G inside t s r
  ah G inside ts 0 n q.2 q.1
end
def y7:List Dc->Nat->List (Int×Int)->List (Int×Int)
 | [],_,l=>l
 | d::ds,i,l=>y7 ds (i+1) (cZ l d.node (i:Int))
def nV(ds:List Dc)(u:Int):Int:=(bG (y7 ds 0 [(-1,-1)]) u).getD 0
def bS(t:ae):RS:=
 let r:=(aJ (dG t) false t [] ⟨[],List.replicate (au t) (-1),[],[],0,0⟩).1
 { r with uses:=r.uses.map (nV r.ds),aS:=r.aS.map fun x=>(x.1,x.2.map (nV r.ds)) }
mutual
def nI:ae->List (List ByteArray)->List ByteArray->List ByteArray
 | .node k x _ _ kids,s,out=>
  uW k x kids 0 ([]::s) (if k=20 then(if (s.any fun l=>l.contains x) || out.contains x then out else out++[x]) else out)
def uW(k:Int)(x:ByteArray):List ae->Nat->List (List ByteArray)->List ByteArray->List ByteArray
 | [],_,_,out=>out
 | t::ts,i,s,out=>
  uW k x ts (i+1) (if t.kind=12 then(match s with| []=>[]|l::s=>(l++[t.text])::s) else s) (nI t (if k=16/\i=2 then [x]::s else s) out)
end
def aC(r:RS)(i:Bool)(v:List Int):RS:={ r with next:=r.next+1,aS:=if i then cZ r.aS (r.next:Int) v else r.aS }
def iN(G:bf)(s:aQ)(r u:RS)(t:ae):RS:=
 if t.kind=20 then gT u r.next t (eP s t.text)
 else if t.kind=22 then gT u r.next t (aT G.fields t.text)
 else if t.kind=27 then gT u r.next t (aT G.globals t.text)
 else if t.kind=19 then gT u r.next t ((aT G.globals t.text).filter fun j=>decide (jw G j=5))
 else if t.kind=9/\dJ t.text=false then gT u r.next t ((aT G.globals t.text).filter fun j=>decide (jw G j=3))
 else u
theorem dh(G:bf)(i:Bool)(k:Int)(x:ByteArray)(a e:Int)(kids:List ae)(s:aQ)(r:RS):aJ G i (.node k x a e kids) s r=
 if k=3 then ah G i kids 0 kids.length s { aU (aC r i (aj (ak s))) 0 r.next (.node k x a e kids) (decide ((aT G.globals x).getD 0≠(r.next:Int))) with owner:=(r.next:Int) }
 else if k=4 then ah G i kids 0 kids.length s (aU (aC r i (aj (ak s))) 1 r.next (.node k x a e kids) (decide ((aT G.fields x).getD 0≠(r.next:Int))))
 else if k=5 then((ah G true kids 2 1 ([]::(ah G false kids 0 2 [[]] { aU (aC r i (aj (ak s))) 2 r.next (.node k x a e kids) (decide ((aT G.globals x).getD 0≠(r.next:Int))) with owner:=(r.next:Int) }).2) (ah G false kids 0 2 [[]] { aU (aC r i (aj (ak s))) 2 r.next (.node k x a e kids) (decide ((aT G.globals x).getD 0≠(r.next:Int))) with owner:=(r.next:Int) }).1).1,s)
 else if k=7\/k=8 then ah G i kids 0 kids.length (aD G (aC r i (aj (ak s))) 3 r.next (.node k x a e kids) s).2 (aD G (aC r i (aj (ak s))) 3 r.next (.node k x a e kids) s).1
 else if k=11 then((ah G i kids 0 kids.length ([]::s) (aC r i (aj (ak s)))).1,(ah G i kids 0 kids.length ([]::s) (aC r i (aj (ak s)))).2.tail)
 else if k=12 then((ah G i kids 0 2 s (aD G (aC r i (aj (ak s))) 4 r.next (.node k x a e kids) ([]::s)).1).1,kr (ah G i kids 0 2 s (aD G (aC r i (aj (ak s))) 4 r.next (.node k x a e kids) ([]::s)).1).2 ((aD G (aC r i (aj (ak s))) 4 r.next (.node k x a e kids) ([]::s)).2.headD []))
 else if k=16 then((ah G i kids 2 1 ((aD G (aC r i (aj (ak s))) 5 r.next (.node k x a e kids) ([]::s)).2.headD []::(ah G i kids 0 2 s (aD G (aC r i (aj (ak s))) 5 r.next (.node k x a e kids) ([]::s)).1).2) (ah G i kids 0 2 s (aD G (aC r i (aj (ak s))) 5 r.next (.node k x a e kids) ([]::s)).1).1).1,
  (ah G i kids 2 1 ((aD G (aC r i (aj (ak s))) 5 r.next (.node k x a e kids) ([]::s)).2.headD []::(ah G i kids 0 2 s (aD G (aC r i (aj (ak s))) 5 r.next (.node k x a e kids) ([]::s)).1).2) (ah G i kids 0 2 s (aD G (aC r i (aj (ak s))) 5 r.next (.node k x a e kids) ([]::s)).1).1).2.tail)
 else ah G i kids 0 kids.length s (iN G s r (aC r i (aj (ak s))) (.node k x a e kids)):=by
 rw[aJ];rfl
mutual
def Dn:ae->Bool
 | .node k _ _ _ kids=>decide (k≠2/\k≠3/\k≠4/\k≠5)&&(decide (k≠12) || decide (kids.length=2))&&(decide (k≠16) || decide (kids.length=3))&&lV kids
def lV:List ae->Bool
 | []=>true
 | t::ts=>Dn t&&lV ts
end
theorem R6{ts:List ae}:lV ts=true->∀t∈ts,Dn t=true:=by
 induction ts with
 | nil=>intro _ t h;cases h
 | cons a ts ih=>
  intro h t ht;rw[lV,abG]at h;rcases List.mem_cons.1 ht with rfl|ht
  ·exact h.1
  ·exact ih h.2 t ht
def dx(s:aQ):List (List ByteArray):=s.map fun l=>l.map (·.1)
theorem C8{K V:Type}[DecidableEq K]:∀(l:List (K×V)) (k:K),(bG l k).isSome=(l.map (·.1)).any fun y=>decide (k=y)
 | [],_=>rfl
 | x::l,k=>by
  rw[bG,List.map_cons,List.any_cons];by_cases h:k=x.1
  ·rw[if_pos h,decide_eq_true h];rfl
  ·rw[if_neg h,decide_eq_false h,C8 l k];rfl
theorem Cw:∀(s:aQ) (x:ByteArray),(eP s x).isSome=(dx s).any fun l=>l.any fun y=>decide (x=y)
 | [],_=>rfl
 | l::s,x=>by
  have h1:(bG l x).isSome=_:=C8 l x;have h2:=Cw s x;unfold dx at h2⊢;rw[List.map_cons,List.any_cons,<- h1,<- h2];rw[eP]
  cases h:aT l x with
  | none=>rw[show bG l x=none from h];rfl
  | some k=>rw[show bG l x=some k from h];rfl
theorem II{s1 s2:aQ}(h:dx s1=dx s2)(x:ByteArray):(eP s1 x).isSome=(eP s2 x).isSome:=by
 rw[Cw,Cw,h]
theorem Nw{K V W:Type}[DecidableEq K]:∀(l:List (K×V)) (m:List (K×W)) (k:K) (v:V) (u:W),l.map (·.1)=m.map (·.1)->(cZ l k v).map (·.1)=(cZ m k u).map (·.1)
 | [],[],_,_,_,_=>rfl
 | [],_::_,_,_,_,h=>by cases h
 | _::_,[],_,_,_,h=>by cases h
 | x::l,y::m,k,v,u,h=>by
  simp only[List.map_cons,List.cons.injEq]at h;rw[cZ,cZ,h.1];by_cases hk:k=y.1
  ·rw[if_pos hk,if_pos hk,List.map_cons,List.map_cons,h.2]
  ·rw[if_neg hk,if_neg hk,List.map_cons,List.map_cons,h.1,Nw l m k v u h.2]
theorem LM:∀(a b l m:kP),l.map (·.1)=m.map (·.1)->a.map (·.1)=b.map (·.1)->(l.foldl (fun a y=>cZ a y.1 y.2) a).map (·.1)=(m.foldl (fun a y=>cZ a y.1 y.2) b).map (·.1)
 | _,_,[],[],_,h=>h
 | _,_,[],_::_,h,_=>by cases h
 | _,_,_::_,[],h,_=>by cases h
 | a,b,x::l,y::m,h,h2=>by
  simp only[List.map_cons,List.cons.injEq]at h;rw[List.foldl_cons,List.foldl_cons];refine LM _ _ l m h.2 ?_;rw[h.1];exact Nw a b _ _ _ h2
theorem Gl{s1 s2:aQ}{l m:kP}(h:dx s1=dx s2)(hl:l.map (·.1)=m.map (·.1)):dx (kr s1 l)=dx (kr s2 m):=by
 cases s1 with
 | nil=>cases s2 with
  | nil=>rfl
  | cons b s2=>cases h
 | cons a s1=>cases s2 with
  | nil=>cases h
  | cons b s2=>
   unfold dx at h⊢;simp only[List.map_cons,List.cons.injEq]at h;simp only[kr,List.map_cons,h.2];rw[LM a b l m hl h.1]
theorem KF{s1 s2:aQ}(h:dx s1=dx s2):dx s1.tail=dx s2.tail:=by
 unfold dx at h⊢;rw[List.map_tail,List.map_tail,h]
theorem xw{s1 s2:aQ}{l m:kP}(h:dx s1=dx s2)(hl:l.map (·.1)=m.map (·.1)):dx (l::s1)=dx (m::s2):=by
 unfold dx at h⊢;rw[List.map_cons,List.map_cons,h,hl]
theorem LA{s1 s2:aQ}(h:dx s1=dx s2):(s1.headD []).map (·.1)=(s2.headD []).map (·.1):=by
 cases s1 with
 | nil=>cases s2 with
  | nil=>rfl
  | cons b s2=>cases h
 | cons a s1=>cases s2 with
  | nil=>cases h
  | cons b s2=>
   unfold dx at h;simp only[List.map_cons,List.cons.injEq]at h;exact h.1
structure xG (G1 G2:bf):Prop where
 gl:∀x,(aT G1.globals x).isSome=(aT G2.globals x).isSome
 fl:∀x,(aT G1.fields x).isSome=(aT G2.fields x).isSome
 kd:∀x (K:Int),((aT G1.globals x).filter fun j=>decide (jw G1 j=K)).isSome=((aT G2.globals x).filter fun j=>decide (jw G2 j=K)).isSome
theorem xG.refl(G:bf):xG G G:=⟨fun _=>rfl,fun _=>rfl,fun _ _=>rfl⟩
structure Gr (m:Nat) (r1 q1 r2 q2:RS) (p d:Nat):Prop where
 p1:q1.aW.length=r1.aW.length+p
 p2:q2.aW.length=r2.aW.length+p
 d1:q1.ds.length=r1.ds.length+d
 d2:q2.ds.length=r2.ds.length+d
 n1:q1.next=r1.next+m
 n2:q2.next=r2.next+m
def vY(m:Nat)(r1 q1 r2 q2:RS):Prop:=∃p d,Gr m r1 q1 r2 q2 p d
theorem vY.trans{m m' n:Nat}{r1 q1 u1 r2 q2 u2:RS}(h:vY m r1 q1 r2 q2)(k:vY m' q1 u1 q2 u2)(hn:n=m+m'):vY n r1 u1 r2 u2:=by
 obtain⟨p,d,h⟩:=h;obtain⟨p',d',k⟩:=k;refine⟨p+p',d+d',?_,?_,?_,?_,?_,?_⟩
 ·rw[k.p1,h.p1];omega
 ·rw[k.p2,h.p2];omega
 ·rw[k.d1,h.d1];omega
 ·rw[k.d2,h.d2];omega
 ·rw[k.n1,h.n1];omega
 ·rw[k.n2,h.n2];omega
theorem vY.refl(r1 r2:RS):vY 0 r1 r1 r2 r2:=⟨0,0,rfl,rfl,rfl,rfl,rfl,rfl⟩
theorem Uj(r1 r2:RS)(c:Int)(n1 n2:Nat)(t:ae):vY 0 r1 (qg r1 c n1 t) r2 (qg r2 c n2 t):=⟨1,0,by simp[qg],by simp[qg],rfl,rfl,rfl,rfl⟩
theorem aa4(r1 r2:RS)(c:Int)(n1 n2:Nat)(t:ae):vY 0 r1 (kU r1 c n1 t) r2 (kU r2 c n2 t):=⟨0,1,rfl,rfl,by simp[kU],by simp[kU],rfl,rfl⟩
theorem Dh(r1 r2:RS)(n1 n2:Nat)(t:ae)(a b:Option Int)(h:a.isSome=b.isSome):vY 0 r1 (gT r1 n1 t a) r2 (gT r2 n2 t b):=by
 cases a with
 | none=>cases b with
  | none=>exact Uj _ _ _ _ _ _
  | some y=>cases h
 | some x=>cases b with
  | none=>cases h
  | some y=>exact⟨0,0,rfl,rfl,rfl,rfl,rfl,rfl⟩
theorem AV{G1 G2:bf}(hG:xG G1 G2)(r1 r2:RS)(c:Int)(n1 n2:Nat)(t:ae){s1 s2:aQ}(hs:dx s1=dx s2):
 vY 0 r1 (aD G1 r1 c n1 t s1).1 r2 (aD G2 r2 c n2 t s2).1/\dx (aD G1 r1 c n1 t s1).2=dx (aD G2 r2 c n2 t s2).2:=by
 unfold aD;rw[II hs,hG.gl];split
 ·exact⟨Uj _ _ _ _ _ _,hs⟩
 ·exact⟨aa4 _ _ _ _ _ _,Gl hs rfl⟩
mutual
theorem N9{G1 G2:bf}(hG:xG G1 G2):∀(t:ae) (i:Bool) (s1 s2:aQ) (r1 r2:RS),Dn t=true->dx s1=dx s2 ->
 vY (au t) r1 (aJ G1 i t s1 r1).1 r2 (aJ G2 i t s2 r2).1/\dx (aJ G1 i t s1 r1).2=dx (aJ G2 i t s2 r2).2
 | .node k x a e kids,i,s1,s2,r1,r2,hin,hs=>by
  rw[Dn]at hin;simp only[abG,Bool.or_eq_true,decide_eq_true_eq]at hin;obtain⟨⟨⟨⟨k2,k3,k4,k5⟩,h12⟩,h16⟩,hks⟩:=hin;have h0:∀v1 v2,vY 1 r1 { r1 with next:=r1.next+1,aS:=v1 } r2 { r2 with next:=r2.next+1,aS:=v2 }:=fun v1 v2=>⟨0,0,rfl,rfl,rfl,rfl,rfl,rfl⟩
  rw[aJ,aJ,au];simp only[if_neg k3,if_neg k4,if_neg k5];by_cases BP:k=7\/k=8
  ·simp only[if_pos BP]
   obtain⟨a1,a2⟩:=AV hG { r1 with next:=r1.next+1,aS:=if i then cZ r1.aS (r1.next:Int) (aj (ak s1)) else r1.aS } { r2 with next:=r2.next+1,aS:=if i then cZ r2.aS (r2.next:Int) (aj (ak s2)) else r2.aS } 3 r1.next r2.next (.node k x a e kids) hs;obtain⟨b1,b2⟩:=mr hG kids i 0 kids.length _ _ _ _ hks a2;refine⟨((h0 _ _).trans (a1.trans b1 rfl) ?_),b2⟩;simp
  simp only[if_neg BP];by_cases h11:k=11
  ·simp only[if_pos h11]
   obtain⟨b1,b2⟩:=mr hG kids i 0 kids.length ([]::s1) ([]::s2) { r1 with next:=r1.next+1,aS:=if i then cZ r1.aS (r1.next:Int) (aj (ak s1)) else r1.aS } { r2 with next:=r2.next+1,aS:=if i then cZ r2.aS (r2.next:Int) (aj (ak s2)) else r2.aS } hks (xw hs rfl);refine⟨(h0 _ _).trans b1 ?_,KF b2⟩;simp
  simp only[if_neg h11];by_cases pO:k=12
  ·simp only[if_pos pO]
   have hl:kids.length=2:=h12.resolve_left (by simp[pO]);obtain⟨a1,a2⟩:=AV hG { r1 with next:=r1.next+1,aS:=if i then cZ r1.aS (r1.next:Int) (aj (ak s1)) else r1.aS } { r2 with next:=r2.next+1,aS:=if i then cZ r2.aS (r2.next:Int) (aj (ak s2)) else r2.aS } 4 r1.next r2.next (.node k x a e kids) (xw (l:=[]) (m:=[]) hs rfl);obtain⟨b1,b2⟩:=mr hG kids i 0 2 s1 s2 _ _ hks hs;refine⟨((h0 _ _).trans (a1.trans b1 rfl) ?_),Gl b2 (LA a2)⟩;rw[<- hl];simp
  simp only[if_neg pO];by_cases pM:k=16
  ·simp only[if_pos pM]
   have hl:kids.length=3:=h16.resolve_left (by simp[pM]);obtain⟨a1,a2⟩:=AV hG { r1 with next:=r1.next+1,aS:=if i then cZ r1.aS (r1.next:Int) (aj (ak s1)) else r1.aS } { r2 with next:=r2.next+1,aS:=if i then cZ r2.aS (r2.next:Int) (aj (ak s2)) else r2.aS } 5 r1.next r2.next (.node k x a e kids) (xw (l:=[]) (m:=[]) hs rfl);obtain⟨b1,b2⟩:=mr hG kids i 0 2 s1 s2 _ _ hks hs;obtain⟨c1,c2⟩:=mr hG kids i 2 1 _ _ _ _ hks (xw b2 (LA a2));refine⟨((h0 _ _).trans (a1.trans (b1.trans c1 rfl) rfl) ?_),KF c2⟩
   match kids,hl with
   | [a,b,c],_=>simp[aG];omega
  simp only[if_neg pM]
  have hb:∀u1 u2,vY 1 r1 u1 r2 u2->vY (1+aG kids) r1 (ah G1 i kids 0 kids.length s1 u1).1 r2 (ah G2 i kids 0 kids.length s2 u2).1/\dx (ah G1 i kids 0 kids.length s1 u1).2=dx (ah G2 i kids 0 kids.length s2 u2).2:=fun u1 u2 hu=>by
   obtain⟨b1,b2⟩:=mr hG kids i 0 kids.length s1 s2 u1 u2 hks hs;exact⟨hu.trans b1 (by simp),b2⟩
  apply hb
  by_cases h20:k=20
  ·simp only[if_pos h20];exact(h0 _ _).trans (Dh _ _ _ _ _ _ _ (II hs x)) rfl
  simp only[if_neg h20];by_cases h22:k=22
  ·simp only[if_pos h22];exact(h0 _ _).trans (Dh _ _ _ _ _ _ _ (hG.fl x)) rfl
  simp only[if_neg h22];by_cases h27:k=27
  ·simp only[if_pos h27];exact(h0 _ _).trans (Dh _ _ _ _ _ _ _ (hG.gl x)) rfl
  simp only[if_neg h27];by_cases h19:k=19
  ·simp only[if_pos h19];exact(h0 _ _).trans (Dh _ _ _ _ _ _ _ (hG.kd x 5)) rfl
  simp only[if_neg h19];by_cases h9:k=9/\dJ x=false
  ·simp only[if_pos h9];exact(h0 _ _).trans (Dh _ _ _ _ _ _ _ (hG.kd x 3)) rfl
  simp only[if_neg h9];exact h0 _ _
theorem mr{G1 G2:bf}(hG:xG G1 G2):∀(ts:List ae) (i:Bool) (from_ n:Nat) (s1 s2:aQ) (r1 r2:RS),lV ts=true->dx s1=dx s2 ->
 vY (aG ((ts.drop from_).take n)) r1 (ah G1 i ts from_ n s1 r1).1 r2 (ah G2 i ts from_ n s2 r2).1/\dx (ah G1 i ts from_ n s1 r1).2=dx (ah G2 i ts from_ n s2 r2).2
 | [],i,f,n,s1,s2,r1,r2,_,hs=>by
  rw[ah,ah]
  simpa [aG] using⟨vY.refl r1 r2,hs⟩
 | t::ts,i,f+1,n,s1,s2,r1,r2,hin,hs=>by
  rw[lV,abG]at hin;rw[ah,ah,List.drop_succ_cons];exact mr hG ts i f n s1 s2 r1 r2 hin.2 hs
 | t::ts,i,0,0,s1,s2,r1,r2,hin,hs=>by
  rw[ah,ah]
  simpa [aG] using⟨vY.refl r1 r2,hs⟩
 | t::ts,i,0,n+1,s1,s2,r1,r2,hin,hs=>by
  rw[lV,abG]at hin;rw[ah,ah];obtain⟨a1,a2⟩:=N9 hG t i s1 s2 r1 r2 hin.1 hs;obtain⟨b1,b2⟩:=mr hG ts i 0 n _ _ _ _ hin.2 a2;refine⟨a1.trans b1 ?_,b2⟩;simp[aG]
end
end Go.Proofs.YtoepemlnlpamlaaGreat
