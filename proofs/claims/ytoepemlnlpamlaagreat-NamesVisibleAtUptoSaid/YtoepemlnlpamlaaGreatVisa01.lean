/- The law NamesVisibleAt holds where what it reads is of bulk at most 1048576: it returns true, and its arguments read as before. Part 1: LexM ParM NamM Ord1. -/
set_option maxRecDepth 100000
set_option maxHeartbeats 4000000
namespace Go.Proofs.YtoepemlnlpamlaaGreat
abbrev aab:=@Nat.le_refl
abbrev aac:=@Nat.le_trans
abbrev aad:=@Bool.and_eq_true
abbrev aae:=@Array.getElem?_eq_some_iff
abbrev aaf:=@List.getElem?_eq_getElem
abbrev aag:=@Option.some.injEq
abbrev aah:=@List.getElem?_eq_some_iff
abbrev aai:=@List.getElem?_cons_zero
abbrev aaj:=@List.getElem?_cons_succ
abbrev aak:=@List.getElem?_toArray
abbrev aal:=@List.getElem?_append_right
abbrev aam:=@List.length_append
abbrev aan:=@List.mem_of_getElem?
abbrev aao:=@List.length_cons
abbrev bB:=List UInt8
def bf(l:bB):ByteArray:=⟨l.toArray⟩
def bz(s:bB)(i:Nat):Nat:=(s.getD i 0).toNat
def uD(s:bB)(a b:Nat):bB:=(s.drop a).take (b - a)
def kI(c:Nat):Bool:=decide (97<=c)&&decide (c<=122)
def fT(c:Nat):Bool:=decide (48<=c)&&decide (c<=57)
def rV(c:Nat):Bool:=decide (c=9) || decide (c=10) || decide (c=13) || decide (c=32)
def xG(c:Nat):Bool:=kI c || fT c || decide (c=95)
def RA:List bB:=[[114,101,99,111,114,100],[112,114,111,99],[118,97,114],[105,102],[101,108,115,101],[119,104,105,108,101],[102,111,114],[116,111],[114,101,116,117,114,110],[97,115,115,101,114,116],[97,110,100],[111,114],[110,111,116],[116,114,117,101],[102,97,108,115,101],[105,110,116],[98,111,111,108],[108,101,110]]
def QF:List bB:=[[61,61],[33,61],[60,61],[62,61]]
def IY:List bB:=[[60],[62],[61],[43],[45],[42],[47],[37],[40],[41],[123],[125],[91],[93],[44],[59],[58],[46]]
def tL(l:List bB)(s:bB):Bool:=l.any fun x=>decide (x=s)
def Jm(s:bB):Bool:=tL RA s
def yB(s:bB)(at_:Nat):Nat:=
 if decide (at_+2<=s.length)&&tL QF (uD s at_ (at_+2)) then 2 else if tL IY (uD s at_ (at_+1)) then 1 else 0
def u7(s:bB)(at_:Nat):Bool:=kI (bz s at_) || fT (bz s at_) || decide (0<yB s at_)
def iH(p:Nat->Bool):bB->Nat->Nat->Nat
 | _,0,a=>a
 | s,f+1,a=>if decide (a<s.length)&&p a then iH p s f (a+1) else a
def kG(s:bB):Nat->Nat->Nat
 | 0,a=>a
 | f+1,a=>if decide (a<s.length)&&(rV (bz s a) || decide (bz s a=35)) then(if bz s a=35 then kG s f (iH (fun i=> !decide (bz s i=10)) s s.length a) else kG s f (a+1)) else a
def gM(s:bB)(a:Nat):Nat×Nat:=
 if kI (bz s a) then
  (if Jm (uD s a (iH (fun i=>xG (bz s i)) s s.length a)) then 1 else 0,iH (fun i=>xG (bz s i)) s s.length a)
 else if fT (bz s a) then(2,iH (fun i=>fT (bz s i)) s s.length a)
 else if 0<yB s a then(3,a+yB s a)
 else(4,iH (fun i=> !rV (bz s i)&& !decide (bz s i=35)&& !u7 s i) s s.length a)
structure kD where
 kind:Nat
 from_:Nat
 at_:Nat
 end_:Nat
deriving DecidableEq
def uR(s:bB):Nat->Nat->List kD
 | 0,_=>[]
 | f+1,from_=>
  let a:=kG s (s.length+1) from_
  if s.length<=a then [⟨5,from_,a,a⟩] else⟨(gM s a).1,from_,a,(gM s a).2⟩::uR s f (gM s a).2
def rH(s:bB):List kD:=uR s (s.length+1) 0
def yG:bB->Nat->Option Nat
 | [],n=>some n
 | c::r,n=>if fT c.toNat then yG r (10*n+(c.toNat - 48)) else none
def fV(s:bB):Option Nat:=if s.length<1\/9<s.length then none else yG s 0
def rE(s:bB):Bool:=decide (1<=s.length)&&decide (s.length<=16)&&kI (bz s 0)&& !Jm s&&decide ((gM s 0).2=s.length)
section
variable {p:Nat->Bool}{s:bB}
theorem Iq:∀(f A a:Nat),A<=a->a<=s.length->(∀j,A<=j->j<a->p j=true)->(a<s.length->p a=false)->s.length<=f+A->iH p s f A=a:=by
 intro f
 induction f with
 | zero=>
  intro A a G C _ _ H;have:A=a:=by omega
  subst this;rfl
 | succ f ih=>
  intro A a G C D E H;unfold iH;by_cases h:A=a
  ·subst h
   by_cases F:A<s.length
   ·rw[E F];simp
   ·simp[F]
  ·have I:=D A (aab _) (by omega)
   rw[I,decide_eq_true (by omega:A<s.length),Bool.and_true,if_pos rfl];exact ih (A+1) a (by omega) C (fun j J B=>D j (by omega) B) E (by omega)
theorem Gj:∀(f A:Nat),A<=s.length->s.length<=f+A ->
 A<=iH p s f A/\iH p s f A<=s.length/\(∀j,A<=j->j<iH p s f A->p j=true)/\(iH p s f A<s.length->p (iH p s f A)=false):=by
 intro f
 induction f with
 | zero=>
  intro A D E;have:A=s.length:=by omega
  subst this;exact⟨aab _,aab _,fun j B C=>by simp only[iH]at C;omega,fun B=>by simp only[iH]at B;omega⟩
 | succ f ih=>
  intro A D E;unfold iH;by_cases h:(decide (A<s.length)&&p A)=true
  ·rw[if_pos h]
   simp at h;obtain⟨J,G,H,I⟩:=ih (A+1) (by omega) (by omega);refine⟨by omega,G,fun j B C=>?_,I⟩;by_cases F:j=A
   ·subst F;exact h.2
   ·exact H j (by omega) C
  ·rw[if_neg h]
   refine⟨aab _,D,fun j B C=>by omega,fun B=>?_⟩;simp at h;exact h B
theorem Ip{a:Nat}(h:a<s.length)(B:p a=true):a<iH p s s.length a:=by
 obtain⟨D,E,F,C⟩:=Gj (p:=p) (s:=s) s.length a (by omega) (by omega);rcases Nat.lt_or_ge a (iH p s s.length a) with A|A
 ·exact A
 ·have:iH p s s.length a=a:=by omega
  rw[this]at C;rw[C h]at B;cases B
theorem Ex:∀(f a:Nat),a<=s.length->s.length<f+a->a<=kG s f a/\kG s f a<=s.length/\(kG s f a<s.length->rV (bz s (kG s f a))=false/\bz s (kG s f a)≠35):=by
 intro f
 induction f with
 | zero=>intro a A D;omega
 | succ f ih=>
  intro a A D;unfold kG;by_cases h:(decide (a<s.length)&&(rV (bz s a) || decide (bz s a=35)))=true
  ·rw[if_pos h]
   simp at h;by_cases C:bz s a=35
   ·rw[if_pos C]
    have F:=Ip (p:=fun i=> !decide (bz s i=10)) h.1 (by simp[C]);have B:=(Gj (p:=fun i=> !decide (bz s i=10)) (s:=s) s.length a A (by omega)).2.1;have:=ih _ B (by omega);exact⟨by omega,this.2⟩
   ·rw[if_neg C]
    have:=ih (a+1) (by omega) (by omega);exact⟨by omega,this.2⟩
  ·rw[if_neg h]
   refine⟨aab _,A,fun E=>?_⟩;simp[E]at h;exact h
theorem symM_le(a:Nat):yB s a<=2:=by unfold yB;split<;>(try split)<;>omega
theorem symM_end{a:Nat}(h:a<s.length):a+yB s a<=s.length:=by
 unfold yB;split
 ·rename_i h1
  simp at h1;omega
 ·split<;>omega
theorem CY{a:Nat}(h:a<s.length)(E:rV (bz s a)=false)(F:bz s a≠35):a<(gM s a).2/\(gM s a).2<=s.length/\(gM s a).1<=4:=by
 have A:=fun p=>(Gj (p:=p) (s:=s) s.length a (by omega) (by omega)).2.1
 unfold gM;by_cases B:kI (bz s a)=true
 ·rw[if_pos B]
  refine⟨Ip h (by simp[xG,B]),A _,?_⟩;simp only;split<;>omega
 ·rw[if_neg B]
  by_cases C:fT (bz s a)=true
  ·rw[if_pos C]
   exact⟨Ip h C,A _,by simp⟩
  ·rw[if_neg C]
   by_cases D:0<yB s a
   ·rw[if_pos D]
    exact⟨by simp only;omega,symM_end h,by simp⟩
   ·rw[if_neg D]
    refine⟨Ip h ?_,A _,by simp⟩;simp[E,F,u7,B,C,D]
end
inductive ae where
 | node (k:Int) (t:ByteArray) (a e:Int) (kids:List ae)
def ae.kind:ae->Int| .node k _ _ _ _=>k
def ae.text:ae->ByteArray| .node _ t _ _ _=>t
def ae.at_:ae->Int| .node _ _ a _ _=>a
def ae.end_:ae->Int| .node _ _ _ e _=>e
def ae.kids:ae->List ae| .node _ _ _ _ l=>l
structure Dg where
 code:Int
 at_:Int
 end_:Int
 text:ByteArray
structure PS where
 k:Nat
 last:Nat
 ds:List Dg
section
variable (s:bB) (l:List kD)
def tokD:kD:=⟨5,0,0,0⟩
def iA(k:Nat):kD:=l.getD k tokD
def Cq(t:kD):bB:=uD s t.at_ t.end_
def bK(k:Nat):bB:=Cq s (iA l k)
def bM(p:PS):Nat:=(iA l p.k).kind
def oL(p:PS):bB:=if p.k+1<l.length then bK s l (p.k+1) else []
def aB(p:PS):PS:=⟨p.k+1,(iA l p.k).end_,p.ds⟩
def iI(p:PS)(code:Int)(text:bB):PS:=
 match p.ds.getLast? with
 | some d=>if d.at_=((iA l p.k).at_:Int) then p else { p with ds:=p.ds++[⟨code,(iA l p.k).at_,(iA l p.k).end_,bf text⟩] }
 | none=> { p with ds:=p.ds++[⟨code,(iA l p.k).at_,(iA l p.k).end_,bf text⟩] }
def bF(p:PS)(w:bB):Bool:=decide (bM l p≠5)&&decide (bK s l p.k=w)
def bI(p:PS)(w:bB):PS:=if bF s l p w then aB l p else p
def aL(p:PS)(w:bB):PS:=if bF s l p w then aB l p else iI l p 4 w
def cK(p:PS):bB:=if bM l p=0 then bK s l p.k else []
def dK(p:PS):PS:=if bM l p=0 then aB l p else iI l p 4 [110,97,109,101]
def gH:bB->bB
 | 48::c::r=>gH (c::r)
 | x=>x
def bP(p:PS)(first:Nat)(kids:List ae):Int:=
 let a:Int:=if first<p.k then((iA l first).at_:Int) else(p.last:Int)
 match kids with
 | []=>a
 | t::_=>if t.at_<a then t.at_ else a
def aI(p:PS)(first:Nat)(kind:Int)(text:bB)(kids:List ae):ae:=.node kind (bf text) (bP l p first kids) p.last kids
def uC(p:PS):ae×PS:=
 if bF s l p [98,111,111,108] then(aI l (aB l p) p.k 9 [98,111,111,108] [],aB l p)
 else if bF s l p [105,110,116] then
  let p1:=aB l p
  if bF s l p1 [91] then
   let p2:=aB l p1
   let p4:=if bM l p2=2 then aL s l (aB l p2) [93] else aL s l (iI l p2 4 [110,117,109,98,101,114]) [93]
   (aI l p4 p.k 10 (if bM l p2=2 then gH (bK s l p2.k) else []) [],p4)
  else(aI l p1 p.k 9 [105,110,116] [],p1)
 else if bM l p=0 then(aI l (aB l p) p.k 9 (bK s l p.k) [],aB l p)
 else(aI l (iI l p 4 [116,121,112,101]) p.k 1 [] [],iI l p 4 [116,121,112,101])
def jR(p:PS):ae×PS:=if bF s l p [58] then uC s l (aB l p) else(aI l p p.k 0 [] [],p)
def lF(p:PS):ae×PS:=
 let p1:=aL s l (dK l p) [58]
 if bF s l p1 [105,110,116] || bF s l p1 [98,111,111,108] then
  (aI l (aB l p1) p.k 4 (cK s l p) [aI l (aB l p1) p1.k 9 (bK s l p1.k) []],aB l p1)
 else
  let p2:=iI l p1 4 [116,121,112,101]
  (aI l p2 p.k 4 (cK s l p) [aI l p2 p1.k 1 [] []],p2)
def oK:Nat->PS->List ae->Option (List ae×PS)
 | 0,_,_=>none
 | f+1,p,kids=>if bF s l p [44] then oK f (lF s l (aB l p)).2 (kids++[(lF s l (aB l p)).1]) else some (kids,p)
def pU(f:Nat)(p:PS):Option (ae×PS):=
 let p1:=dK l (aB l p)
 let p2:=aL s l p1 [123]
 match oK s l f (lF s l p2).2 [(lF s l p2).1] with
 | none=>none
 | some (kids,p3)=>some (aI l (aL s l p3 [125]) p.k 3 (cK s l (aB l p)) kids,aL s l p3 [125])
def iO(p:PS):ae×PS:=
 let p1:=bI s l p [118,97,114]
 let r:=jR s l (dK l p1)
 (aI l r.2 p.k (if bF s l p [118,97,114] then 8 else 7) (cK s l p1) [r.1],r.2)
def mh:Nat->PS->List ae->Option (List ae×PS)
 | 0,_,_=>none
 | f+1,p,kids=>if bF s l p [44] then mh f (iO s l (aB l p)).2 (kids++[(iO s l (aB l p)).1]) else some (kids,p)
def ug(f:Nat)(p:PS):Option (ae×PS):=
 let p1:=aL s l p [40]
 match (if bF s l p1 [41] then some ([],p1) else mh s l f (iO s l p1).2 [(iO s l p1).1]) with
 | none=>none
 | some (kids,p2)=>some (aI l (aL s l p2 [41]) p.k 6 [] kids,aL s l p2 [41])
def nR(p:PS):ae×PS:=(aI l (dK l p) p.k 20 (cK s l p) [],dK l p)
def mM(p:PS):Bool:=decide (bM l p=5) || bF s l p [125] || bF s l p [112,114,111,99] || bF s l p [114,101,99,111,114,100]
def Eg:List bB:=[[118,97,114],[105,102],[119,104,105,108,101],[102,111,114],[114,101,116,117,114,110],[97,115,115,101,114,116]]
def Ba(p:PS):Bool:=decide (bM l p=1)&&tL Eg (bK s l p.k)
def sW(first:Nat):Nat->PS->Option PS
 | 0,_=>none
 | f+1,p=>
  if !mM s l p&&(decide (p.k=first) || !Ba s l p) then
   (if bK s l p.k=[59] then some (aB l p) else sW first f (aB l p))
  else some p
def sV(f:Nat)(p:PS):Option (ae×PS):=
 match sW s l p.k f (iI l p 6 []) with
 | none=>none
 | some p1=>some (aI l p1 p.k 1 [] [],p1)
def Bw(lv:Nat):List bB:=
 if lv=1 then [[111,114]] else if lv=2 then [[97,110,100]] else if lv=4 then [[61,61],[33,61],[60],[60,61],[62],[62,61]] else if lv=5 then [[43],[45]] else if lv=6 then [[42],[47],[37]] else []
def yY(p:PS)(lv:Nat):Bool:=decide (bM l p≠5)&&tL (Bw lv) (bK s l p.k)
def EA(p:PS):Bool:=decide (bM l p=0) || decide (bM l p=2) || bF s l p [116,114,117,101] || bF s l p [102,97,108,115,101] || bF s l p [108,101,110] || bF s l p [40] || bF s l p [91]
inductive Fn where
 | expr (lv:Nat)
 | xZ (lv first:Nat) (x:ae)
 | operand
 | args
 | qR (kids:List ae)
 | place
 | stmt
 | block
 | tZ (kids:List ae)
 | branch
def qL(r:Option (List ae×PS))(f:ae->PS->Option (List ae×PS)):Option (List ae×PS):=
 match r with
 | some ([x],p)=>f x p
 | _=>none
def Dh(r:Option (List ae×PS))(f:List ae->PS->Option (List ae×PS)):Option (List ae×PS):=
 match r with
 | some (x,p)=>f x p
 | none=>none
def aP:Nat->Fn->PS->Option (List ae×PS)
 | 0,_,_=>none
 | f+1,.expr lv,p=>
  if lv=3 then
   (if bF s l p [110,111,116] then qL (aP f (.expr 3) (aB l p)) fun x q=>some ([aI l q p.k 28 [110,111,116] [x]],q) else aP f (.expr 4) p)
  else if lv=7 then
   (if bF s l p [45] then qL (aP f (.expr 7) (aB l p)) fun x q=>some ([aI l q p.k 28 [45] [x]],q) else aP f .operand p)
  else qL (aP f (.expr (lv+1)) p) fun x q=>aP f (.xZ lv p.k x) q
 | f+1,.xZ lv first x,p=>
  if yY s l p lv then
   qL (aP f (.expr (lv+1)) (aB l p)) fun y q=>
    let z:=aI l q first 29 (bK s l p.k) [x,y]
    if lv=4 then some ([z],q) else aP f (.xZ lv first z) q
  else some ([x],p)
 | f+1,.operand,p=>
  if bM l p=2 then some ([aI l (aB l p) p.k 24 (gH (bK s l p.k)) []],aB l p)
  else if bF s l p [116,114,117,101] || bF s l p [102,97,108,115,101] then some ([aI l (aB l p) p.k 25 (bK s l p.k) []],aB l p)
  else if decide (bM l p=0)&&decide (oL s l p=[40]) then
   Dh (aP f .args (aB l p)) fun kids q=>some ([aI l q p.k 27 (bK s l p.k) kids],q)
  else if bM l p=0 then aP f .place p
  else if bF s l p [91] then
   qL (aP f (.expr 1) (aB l p)) fun x q=>Dh (aP f (.qR [x]) q) fun kids q2=>some ([aI l (aL s l q2 [93]) p.k 26 [] kids],aL s l q2 [93])
  else if bF s l p [108,101,110] then
   let p1:=aL s l (aB l p) [40]
   let p2:=aL s l (nR s l p1).2 [41]
   some ([aI l p2 p.k 23 [] [(nR s l p1).1]],p2)
  else if bF s l p [40] then qL (aP f (.expr 1) (aB l p)) fun x q=>some ([x],aL s l q [41])
  else some ([aI l (iI l p 5 []) p.k 1 [] []],iI l p 5 [])
 | f+1,.args,p=>
  let p1:=aB l p
  if bF s l p1 [41] then some ([],aL s l p1 [41])
  else qL (aP f (.expr 1) p1) fun x q=>Dh (aP f (.qR [x]) q) fun kids q2=>some (kids,aL s l q2 [41])
 | f+1,.qR kids,p=>
  if bF s l p [44] then qL (aP f (.expr 1) (aB l p)) fun x q=>aP f (.qR (kids++[x])) q else some (kids,p)
 | f+1,.place,p=>
  let x:=(nR s l p).1
  let p1:=(nR s l p).2
  if bF s l p1 [91] then qL (aP f (.expr 1) (aB l p1)) fun y q=>some ([aI l (aL s l q [93]) p.k 21 [] [x,y]],aL s l q [93])
  else if bF s l p1 [46] then some ([aI l (dK l (aB l p1)) p.k 22 (cK s l (aB l p1)) [x]],dK l (aB l p1))
  else some ([x],p1)
 | f+1,.stmt,p=>
  if bF s l p [118,97,114] then
   let p1:=aB l p
   let r:=jR s l (dK l p1)
   qL (aP f (.expr 1) (aL s l r.2 [61])) fun x q=>some ([aI l (aL s l q [59]) p.k 12 (cK s l p1) [r.1,x]],aL s l q [59])
  else if bF s l p [105,102] then aP f .branch p
  else if bF s l p [119,104,105,108,101] then
   qL (aP f (.expr 1) (aB l p)) fun c q=>qL (aP f .block q) fun b q2=>some ([aI l q2 p.k 15 [] [c,b]],q2)
  else if bF s l p [102,111,114] then
   let p1:=aB l p
   qL (aP f (.expr 1) (aL s l (dK l p1) [61])) fun x q=>qL (aP f (.expr 1) (aL s l q [116,111])) fun y q2=>qL (aP f .block q2) fun b q3=>some ([aI l q3 p.k 16 (cK s l p1) [x,y,b]],q3)
  else if bF s l p [114,101,116,117,114,110] then
   let p1:=aB l p
   if EA s l p1 || bF s l p1 [110,111,116] || bF s l p1 [45] then qL (aP f (.expr 1) p1) fun x q=>some ([aI l (aL s l q [59]) p.k 17 [] [x]],aL s l q [59])
   else some ([aI l (aL s l p1 [59]) p.k 17 [] [aI l p1 p1.k 0 [] []]],aL s l p1 [59])
  else if bF s l p [97,115,115,101,114,116] then
   qL (aP f (.expr 1) (aB l p)) fun x q=>some ([aI l (aL s l q [59]) p.k 18 [] [x]],aL s l q [59])
  else if decide (bM l p=0)&&decide (oL s l p=[40]) then
   Dh (aP f .args (aB l p)) fun kids q=>some ([aI l (aL s l q [59]) p.k 19 (bK s l p.k) kids],aL s l q [59])
  else if bM l p=0 then
   qL (aP f .place p) fun x q=>qL (aP f (.expr 1) (aL s l q [61])) fun y q2=>some ([aI l (aL s l q2 [59]) p.k 13 [] [x,y]],aL s l q2 [59])
  else match sV s l f p with
   | none=>none
   | some (x,q)=>some ([x],q)
 | f+1,.block,p=>
  if bF s l p [123] then
   Dh (aP f (.tZ []) (aB l p)) fun kids q=>some ([aI l (aL s l q [125]) p.k 11 [] kids],aL s l q [125])
  else some ([aI l (iI l p 4 [123]) p.k 11 [] []],iI l p 4 [123])
 | f+1,.tZ kids,p=>
  if mM s l p then some (kids,p) else qL (aP f .stmt p) fun x q=>aP f (.tZ (kids++[x])) q
 | f+1,.branch,p=>
  qL (aP f (.expr 1) (aB l p)) fun c q=>qL (aP f .block q) fun b q2=>
   if bF s l q2 [101,108,115,101] then
    (if bF s l (aB l q2) [105,102] then qL (aP f .branch (aB l q2)) fun o q3=>some ([aI l q3 p.k 14 [] [c,b,o]],q3)
    else qL (aP f .block (aB l q2)) fun o q3=>some ([aI l q3 p.k 14 [] [c,b,o]],q3))
   else some ([aI l q2 p.k 14 [] [c,b,aI l q2 q2.k 0 [] []]],q2)
def uT(f:Nat)(p:PS):Option (ae×PS):=
 let p1:=dK l (aB l p)
 match ug s l f p1 with
 | none=>none
 | some (x,p2)=>
  let r:=jR s l p2
  match aP s l f .block r.2 with
  | some ([b],p3)=>some (aI l p3 p.k 5 (cK s l (aB l p)) [x,r.1,b],p3)
  | _=>none
def nO:Nat->PS->Option PS
 | 0,_=>none
 | f+1,p=>if decide (bM l p≠5)&& !bF s l p [114,101,99,111,114,100]&& !bF s l p [112,114,111,99] then nO f (aB l p) else some p
def mQ:Nat->PS->List ae->Option (List ae×PS)
 | 0,_,_=>none
 | f+1,p,kids=>
  if bM l p=5 then some (kids,p)
  else if bF s l p [114,101,99,111,114,100] then(match pU s l f p with|none=>none|some (x,q)=>mQ f q (kids++[x]))
  else if bF s l p [112,114,111,99] then(match uT s l f p with|none=>none|some (x,q)=>mQ f q (kids++[x]))
  else match nO s l f (iI l p 7 []) with
   | none=>none
   | some q=>mQ f q (kids++[aI l q p.k 1 [] []])
end
def pY(s:bB):List kD:=(rH s).filter fun t=>decide (t.kind≠4)
def uh(s:bB)(t:kD):Int:=
 if t.kind=4 then 1 else if t.kind=2/\(fV (Cq s t)).isNone=true then 2 else if t.kind=0/\16<(t.end_:Int) - t.at_ then 3 else 0
def iJ(s:bB):List Dg:=(rH s).filterMap fun t=>if 0<uh s t then some ⟨uh s t,t.at_,t.end_,bf []⟩ else none
def ig:List Dg->List Dg->List Dg
 | [],b=>b
 | a,[]=>a
 | x::a,y::b=>if x.at_<=y.at_ then x::ig a (y::b) else y::ig (x::a) b
termination_by a b=>a.length+b.length
def tV(f:Nat)(s:bB):Option (ae×List Dg):=
 match mQ s (pY s) f ⟨0,0,[]⟩ [] with
 | none=>none
 | some (kids,p)=>some (.node 2 (bf []) 0 s.length kids,ig (iJ s) p.ds)
structure Dc where
 kind:Int
 name:ByteArray
 node:Int
 owner:Int
 deriving DecidableEq
abbrev lH:=List (ByteArray×Int)
abbrev aS:=List lH
def bE{K V:Type}[DecidableEq K]:List (K×V)->K->Option V
 | [],_=>none
 | x::l,k=>if k=x.1 then some x.2 else bE l k
def dh{K V:Type}[DecidableEq K]:List (K×V)->K->V->List (K×V)
 | [],k,v=>[(k,v)]
 | x::l,k,v=>if k=x.1 then(k,v)::l else x::dh l k v
abbrev aU(l:lH)(n:ByteArray):Option Int:=bE l n
def fe:aS->ByteArray->Option Int
 | [],_=>none
 | x::s,n=>match aU x n with|some k=>some k|none=>fe s n
def ay(s:aS):List Int:=s.flatMap fun l=>l.map (·.2)
def ak(l:List Int):List Int:=l.mergeSort fun a b=>decide (a<=b)
def kT(s:aS)(l:lH):aS:=
 match s with
 | []=>[]
 | x::s=>(l.foldl (fun a y=>dh a y.1 y.2) x)::s
structure bC where
 globals:lH
 fields:lH
 kinds:List (Int×Int)
mutual
def ai:ae->Nat
 | .node _ _ _ _ kids=>1+aD kids
def aD:List ae->Nat
 | []=>0
 | t::ts=>ai t+aD ts
end
def mr(l:lH)(n:ByteArray)(k:Int):lH:=if (aU l n).isSome then l else dh l n k
def kr:List ae->Nat->lH->lH
 | [],_,l=>l
 | f::fs,at_,l=>kr fs (at_+ai f) (if f.kind=4 then mr l f.text at_ else l)
def ma:List ae->Nat->bC->bC
 | [],_,g=>g
 | k::ks,n,g=>ma ks (n+ai k) ⟨mr g.globals k.text n,kr k.kids (n+1) g.fields,dh g.kinds (n:Int) k.kind⟩
def dO(t:ae):bC:=ma t.kids 1 ⟨[],[],[]⟩
structure RS where
 ds:List Dc
 uses:List Int
 aR:List (Int×List Int)
 aY:List (Int×Dg)
 next:Nat
 owner:Int
def qF(r:RS)(code:Int)(n:Nat)(t:ae):RS:={ r with aY:=r.aY++[((n:Int),⟨code,t.at_,t.end_,t.text⟩)] }
def lM(r:RS)(kind:Int)(n:Nat)(t:ae):RS:=
 { r with ds:=r.ds++[⟨kind,t.text,n,if kind=0\/kind=2 then -1 else r.owner⟩],uses:=r.uses.set n (n:Int) }
def aW(r:RS)(kind:Int)(n:Nat)(t:ae)(already:Bool):RS:=if already then qF r 9 n t else lM r kind n t
def aH(G:bC)(r:RS)(kind:Int)(n:Nat)(t:ae)(s:aS):RS×aS:=
 if (fe s t.text).isSome || (aU G.globals t.text).isSome then(qF r 9 n t,s) else(lM r kind n t,kT s [(t.text,(n:Int))])
def gV(r:RS)(n:Nat)(t:ae)(F9:Option Int):RS:=
 match F9 with
 | none=>qF r 8 n t
 | some k=> { r with uses:=r.uses.set n k }
def jM(G:bC)(k:Int):Int:=(bE G.kinds k).getD 0
def dM(t:ByteArray):Bool:=decide (t=⟨#[105,110,116]⟩) || decide (t=⟨#[98,111,111,108]⟩)
mutual
def aM(G:bC)(inside:Bool):ae->aS->RS->RS×aS
 | .node k x a e kids,s,r0=>
  let t:ae:=.node k x a e kids
  let n:=r0.next
  let r:RS:={ r0 with next:=n+1,aR:=if inside then dh r0.aR (n:Int) (ak (ay s)) else r0.aR }
  let F9:=(aU G.globals x).getD 0
  if k=3 then ah G inside kids 0 kids.length s { aW r 0 n t (decide (F9≠n)) with owner:=n }
  else if k=4 then ah G inside kids 0 kids.length s (aW r 1 n t (decide ((aU G.fields x).getD 0≠n)))
  else if k=5 then
   let r1:RS:={ aW r 2 n t (decide (F9≠n)) with owner:=n }
   let q:=ah G false kids 0 2 [[]] r1
   ((ah G true kids 2 1 ([]::q.2) q.1).1,s)
  else if k=7\/k=8 then
   let q:=aH G r 3 n t s
   ah G inside kids 0 kids.length q.2 q.1
  else if k=11 then
   let q:=ah G inside kids 0 kids.length ([]::s) r
   (q.1,q.2.tail)
  else if k=12 then
   let q:=aH G r 4 n t ([]::s)
   let q2:=ah G inside kids 0 2 s q.1
   (q2.1,kT q2.2 (q.2.headD []))
  else if k=16 then
   let q:=aH G r 5 n t ([]::s)
   let q2:=ah G inside kids 0 2 s q.1
   let q3:=ah G inside kids 2 1 (q.2.headD []::q2.2) q2.1
   (q3.1,q3.2.tail)
  else
   let r1:=if k=20 then gV r n t (fe s x)
    else if k=22 then gV r n t (aU G.fields x)
    else if k=27 then gV r n t (aU G.globals x)
    else if k=19 then gV r n t ((aU G.globals x).filter fun j=>decide (jM G j=5))
    else if k=9/\dM x=false then gV r n t ((aU G.globals x).filter fun j=>decide (jM G j=3))
    else r
   ah G inside kids 0 kids.length s r1
def ah(G:bC)(inside:Bool):List ae->Nat->Nat->aS->RS->RS×aS
 | [],_,_,s,r=>(r,s)
 | _::ts,from_+1,n,s,r=>ah G inside ts from_ n s r
 | _::_,0,0,s,r=>(r,s)
 | t::ts,0,n+1,s,r=>
  let q:=aM G inside t s r
  ah G inside ts 0 n q.2 q.1
end
def zM:List Dc->Nat->List (Int×Int)->List (Int×Int)
 | [],_,l=>l
 | d::ds,i,l=>zM ds (i+1) (dh l d.node (i:Int))
def oG(ds:List Dc)(u:Int):Int:=(bE (zM ds 0 [(-1,-1)]) u).getD 0
def dZ(t:ae):RS:=
 let r:=(aM (dO t) false t [] ⟨[],List.replicate (ai t) (-1),[],[],0,0⟩).1
 { r with uses:=r.uses.map (oG r.ds),aR:=r.aR.map fun x=>(x.1,x.2.map (oG r.ds)) }
mutual
def jd:ae->List (List ByteArray)->List ByteArray->List ByteArray
 | .node k x _ _ kids,s,out=>
  rT k x kids 0 ([]::s) (if k=20 then(if (s.any fun l=>l.contains x) || out.contains x then out else out++[x]) else out)
def rT(k:Int)(x:ByteArray):List ae->Nat->List (List ByteArray)->List ByteArray->List ByteArray
 | [],_,_,out=>out
 | t::ts,i,s,out=>
  rT k x ts (i+1) (if t.kind=12 then(match s with| []=>[]|l::s=>(l++[t.text])::s) else s) (jd t (if k=16/\i=2 then [x]::s else s) out)
end
def aG(r:RS)(i:Bool)(v:List Int):RS:={ r with next:=r.next+1,aR:=if i then dh r.aR (r.next:Int) v else r.aR }
def iR(G:bC)(s:aS)(r u:RS)(t:ae):RS:=
 if t.kind=20 then gV u r.next t (fe s t.text)
 else if t.kind=22 then gV u r.next t (aU G.fields t.text)
 else if t.kind=27 then gV u r.next t (aU G.globals t.text)
 else if t.kind=19 then gV u r.next t ((aU G.globals t.text).filter fun j=>decide (jM G j=5))
 else if t.kind=9/\dM t.text=false then gV u r.next t ((aU G.globals t.text).filter fun j=>decide (jM G j=3))
 else u
theorem dx(G:bC)(i:Bool)(k:Int)(x:ByteArray)(a e:Int)(A:List ae)(s:aS)(r:RS):aM G i (.node k x a e A) s r=
 if k=3 then ah G i A 0 A.length s { aW (aG r i (ak (ay s))) 0 r.next (.node k x a e A) (decide ((aU G.globals x).getD 0≠(r.next:Int))) with owner:=(r.next:Int) }
 else if k=4 then ah G i A 0 A.length s (aW (aG r i (ak (ay s))) 1 r.next (.node k x a e A) (decide ((aU G.fields x).getD 0≠(r.next:Int))))
 else if k=5 then((ah G true A 2 1 ([]::(ah G false A 0 2 [[]] { aW (aG r i (ak (ay s))) 2 r.next (.node k x a e A) (decide ((aU G.globals x).getD 0≠(r.next:Int))) with owner:=(r.next:Int) }).2) (ah G false A 0 2 [[]] { aW (aG r i (ak (ay s))) 2 r.next (.node k x a e A) (decide ((aU G.globals x).getD 0≠(r.next:Int))) with owner:=(r.next:Int) }).1).1,s)
 else if k=7\/k=8 then ah G i A 0 A.length (aH G (aG r i (ak (ay s))) 3 r.next (.node k x a e A) s).2 (aH G (aG r i (ak (ay s))) 3 r.next (.node k x a e A) s).1
 else if k=11 then((ah G i A 0 A.length ([]::s) (aG r i (ak (ay s)))).1,(ah G i A 0 A.length ([]::s) (aG r i (ak (ay s)))).2.tail)
 else if k=12 then((ah G i A 0 2 s (aH G (aG r i (ak (ay s))) 4 r.next (.node k x a e A) ([]::s)).1).1,kT (ah G i A 0 2 s (aH G (aG r i (ak (ay s))) 4 r.next (.node k x a e A) ([]::s)).1).2 ((aH G (aG r i (ak (ay s))) 4 r.next (.node k x a e A) ([]::s)).2.headD []))
 else if k=16 then((ah G i A 2 1 ((aH G (aG r i (ak (ay s))) 5 r.next (.node k x a e A) ([]::s)).2.headD []::(ah G i A 0 2 s (aH G (aG r i (ak (ay s))) 5 r.next (.node k x a e A) ([]::s)).1).2) (ah G i A 0 2 s (aH G (aG r i (ak (ay s))) 5 r.next (.node k x a e A) ([]::s)).1).1).1,
  (ah G i A 2 1 ((aH G (aG r i (ak (ay s))) 5 r.next (.node k x a e A) ([]::s)).2.headD []::(ah G i A 0 2 s (aH G (aG r i (ak (ay s))) 5 r.next (.node k x a e A) ([]::s)).1).2) (ah G i A 0 2 s (aH G (aG r i (ak (ay s))) 5 r.next (.node k x a e A) ([]::s)).1).1).2.tail)
 else ah G i A 0 A.length s (iR G s r (aG r i (ak (ay s))) (.node k x a e A)):=by
 rw[aM];rfl
mutual
def Ei:ae->Bool
 | .node k _ _ _ kids=>decide (k≠2/\k≠3/\k≠4/\k≠5)&&(decide (k≠12) || decide (kids.length=2))&&(decide (k≠16) || decide (kids.length=3))&&mH kids
def mH:List ae->Bool
 | []=>true
 | t::ts=>Ei t&&mH ts
end
theorem TE{ts:List ae}:mH ts=true->∀t∈ts,Ei t=true:=by
 induction ts with
 | nil=>intro _ t h;cases h
 | cons a ts ih=>
  intro h t A;rw[mH,aad]at h;rcases List.mem_cons.1 A with rfl|A
  ·exact h.1
  ·exact ih h.2 t A
def dE(s:aS):List (List ByteArray):=s.map fun l=>l.map (·.1)
theorem D6{K V:Type}[DecidableEq K]:∀(l:List (K×V)) (k:K),(bE l k).isSome=(l.map (·.1)).any fun y=>decide (k=y)
 | [],_=>rfl
 | x::l,k=>by
  rw[bE,List.map_cons,List.any_cons];by_cases h:k=x.1
  ·rw[if_pos h,decide_eq_true h];rfl
  ·rw[if_neg h,decide_eq_false h,D6 l k];rfl
theorem Du:∀(s:aS) (x:ByteArray),(fe s x).isSome=(dE s).any fun l=>l.any fun y=>decide (x=y)
 | [],_=>rfl
 | l::s,x=>by
  have B:(bE l x).isSome=_:=D6 l x;have A:=Du s x;unfold dE at A⊢;rw[List.map_cons,List.any_cons,<- B,<- A];rw[fe]
  cases h:aU l x with
  | none=>rw[show bE l x=none from h];rfl
  | some k=>rw[show bE l x=some k from h];rfl
theorem Jz{s1 A:aS}(h:dE s1=dE A)(x:ByteArray):(fe s1 x).isSome=(fe A x).isSome:=by
 rw[Du,Du,h]
theorem Oy{K V W:Type}[DecidableEq K]:∀(l:List (K×V)) (m:List (K×W)) (k:K) (v:V) (u:W),l.map (·.1)=m.map (·.1)->(dh l k v).map (·.1)=(dh m k u).map (·.1)
 | [],[],_,_,_,_=>rfl
 | [],_::_,_,_,_,h=>by cases h
 | _::_,[],_,_,_,h=>by cases h
 | x::l,y::m,k,v,u,h=>by
  simp only[List.map_cons,List.cons.injEq]at h;rw[dh,dh,h.1];by_cases A:k=y.1
  ·rw[if_pos A,if_pos A,List.map_cons,List.map_cons,h.2]
  ·rw[if_neg A,if_neg A,List.map_cons,List.map_cons,h.1,Oy l m k v u h.2]
theorem MQ:∀(a b l m:lH),l.map (·.1)=m.map (·.1)->a.map (·.1)=b.map (·.1)->(l.foldl (fun a y=>dh a y.1 y.2) a).map (·.1)=(m.foldl (fun a y=>dh a y.1 y.2) b).map (·.1)
 | _,_,[],[],_,h=>h
 | _,_,[],_::_,h,_=>by cases h
 | _,_,_::_,[],h,_=>by cases h
 | a,b,x::l,y::m,h,h2=>by
  simp only[List.map_cons,List.cons.injEq]at h;rw[List.foldl_cons,List.foldl_cons];refine MQ _ _ l m h.2 ?_;rw[h.1];exact Oy a b _ _ _ h2
theorem Hm{s1 A:aS}{l m:lH}(h:dE s1=dE A)(B:l.map (·.1)=m.map (·.1)):dE (kT s1 l)=dE (kT A m):=by
 cases s1 with
 | nil=>cases A with
  | nil=>rfl
  | cons b A=>cases h
 | cons a s1=>cases A with
  | nil=>cases h
  | cons b A=>
   unfold dE at h⊢;simp only[List.map_cons,List.cons.injEq]at h;simp only[kT,List.map_cons,h.2];rw[MQ a b l m B h.1]
theorem LP{s1 A:aS}(h:dE s1=dE A):dE s1.tail=dE A.tail:=by
 unfold dE at h⊢;rw[List.map_tail,List.map_tail,h]
theorem yc{s1 A:aS}{l m:lH}(h:dE s1=dE A)(B:l.map (·.1)=m.map (·.1)):dE (l::s1)=dE (m::A):=by
 unfold dE at h⊢;rw[List.map_cons,List.map_cons,h,B]
theorem MH{s1 A:aS}(h:dE s1=dE A):(s1.headD []).map (·.1)=(A.headD []).map (·.1):=by
 cases s1 with
 | nil=>cases A with
  | nil=>rfl
  | cons b A=>cases h
 | cons a s1=>cases A with
  | nil=>cases h
  | cons b A=>
   unfold dE at h;simp only[List.map_cons,List.cons.injEq]at h;exact h.1
structure yo (G1 G2:bC):Prop where
 gl:∀x,(aU G1.globals x).isSome=(aU G2.globals x).isSome
 fl:∀x,(aU G1.fields x).isSome=(aU G2.fields x).isSome
 kd:∀x (K:Int),((aU G1.globals x).filter fun j=>decide (jM G1 j=K)).isSome=((aU G2.globals x).filter fun j=>decide (jM G2 j=K)).isSome
theorem yo.refl(G:bC):yo G G:=⟨fun _=>rfl,fun _=>rfl,fun _ _=>rfl⟩
structure Gr (m:Nat) (r1 q1 r2 q2:RS) (p d:Nat):Prop where
 p1:q1.aY.length=r1.aY.length+p
 p2:q2.aY.length=r2.aY.length+p
 d1:q1.ds.length=r1.ds.length+d
 d2:q2.ds.length=r2.ds.length+d
 n1:q1.next=r1.next+m
 n2:q2.next=r2.next+m
def wY(m:Nat)(r1 q1 r2 q2:RS):Prop:=∃p d,Gr m r1 q1 r2 q2 p d
theorem wY.trans{m A n:Nat}{D B F E C G:RS}(h:wY m D B E C)(k:wY A B F C G)(J:n=m+A):wY n D F E G:=by
 obtain⟨p,d,h⟩:=h;obtain⟨I,H,k⟩:=k;refine⟨p+I,d+H,?_,?_,?_,?_,?_,?_⟩
 ·rw[k.p1,h.p1];omega
 ·rw[k.p2,h.p2];omega
 ·rw[k.d1,h.d1];omega
 ·rw[k.d2,h.d2];omega
 ·rw[k.n1,h.n1];omega
 ·rw[k.n2,h.n2];omega
theorem wY.refl(A B:RS):wY 0 A A B B:=⟨0,0,rfl,rfl,rfl,rfl,rfl,rfl⟩
theorem Vy(A B:RS)(c:Int)(C D:Nat)(t:ae):wY 0 A (qF A c C t) B (qF B c D t):=⟨1,0,by simp[qF],by simp[qF],rfl,rfl,rfl,rfl⟩
theorem gro_decl(A B:RS)(c:Int)(C D:Nat)(t:ae):wY 0 A (lM A c C t) B (lM B c D t):=⟨0,1,rfl,rfl,by simp[lM],by simp[lM],rfl,rfl⟩
theorem Ec(A B:RS)(C D:Nat)(t:ae)(a b:Option Int)(h:a.isSome=b.isSome):wY 0 A (gV A C t a) B (gV B D t b):=by
 cases a with
 | none=>cases b with
  | none=>exact Vy _ _ _ _ _ _
  | some y=>cases h
 | some x=>cases b with
  | none=>cases h
  | some y=>exact⟨0,0,rfl,rfl,rfl,rfl,rfl,rfl⟩
theorem BN{A B:bC}(I:yo A B)(D E:RS)(c:Int)(G H:Nat)(t:ae){s1 F:aS}(C:dE s1=dE F):
 wY 0 D (aH A D c G t s1).1 E (aH B E c H t F).1/\dE (aH A D c G t s1).2=dE (aH B E c H t F).2:=by
 unfold aH;rw[Jz C,I.gl];split
 ·exact⟨Vy _ _ _ _ _ _,C⟩
 ·exact⟨gro_decl _ _ _ _ _ _,Hm C rfl⟩
mutual
theorem O6{I J:bC}(D:yo I J):∀(t:ae) (i:Bool) (s1 C:aS) (A B:RS),Ei t=true->dE s1=dE C ->
 wY (ai t) A (aM I i t s1 A).1 B (aM J i t C B).1/\dE (aM I i t s1 A).2=dE (aM J i t C B).2
 | .node k x a e kids,i,s1,C,A,B,hin,hs=>by
  rw[Ei]at hin;simp only[aad,Bool.or_eq_true,decide_eq_true_eq]at hin;obtain⟨⟨⟨⟨f,n,j,g⟩,T⟩,U⟩,E⟩:=hin;have F:∀z y,wY 1 A { A with next:=A.next+1,aR:=z } B { B with next:=B.next+1,aR:=y }:=fun z y=>⟨0,0,rfl,rfl,rfl,rfl,rfl,rfl⟩
  rw[aM,aM,ai];simp only[if_neg n,if_neg j,if_neg g];by_cases Y:k=7\/k=8
  ·simp only[if_pos Y]
   obtain⟨K,L⟩:=BN D { A with next:=A.next+1,aR:=if i then dh A.aR (A.next:Int) (ak (ay s1)) else A.aR } { B with next:=B.next+1,aR:=if i then dh B.aR (B.next:Int) (ak (ay C)) else B.aR } 3 A.next B.next (.node k x a e kids) hs;obtain⟨G,H⟩:=mW D kids i 0 kids.length _ _ _ _ E L;refine⟨((F _ _).trans (K.trans G rfl) ?_),H⟩;simp
  simp only[if_neg Y];by_cases M:k=11
  ·simp only[if_pos M]
   obtain⟨G,H⟩:=mW D kids i 0 kids.length ([]::s1) ([]::C) { A with next:=A.next+1,aR:=if i then dh A.aR (A.next:Int) (ak (ay s1)) else A.aR } { B with next:=B.next+1,aR:=if i then dh B.aR (B.next:Int) (ak (ay C)) else B.aR } E (yc hs rfl);refine⟨(F _ _).trans G ?_,LP H⟩;simp
  simp only[if_neg M];by_cases X:k=12
  ·simp only[if_pos X]
   have V:kids.length=2:=T.resolve_left (by simp[X]);obtain⟨K,L⟩:=BN D { A with next:=A.next+1,aR:=if i then dh A.aR (A.next:Int) (ak (ay s1)) else A.aR } { B with next:=B.next+1,aR:=if i then dh B.aR (B.next:Int) (ak (ay C)) else B.aR } 4 A.next B.next (.node k x a e kids) (yc (l:=[]) (m:=[]) hs rfl);obtain⟨G,H⟩:=mW D kids i 0 2 s1 C _ _ E hs;refine⟨((F _ _).trans (K.trans G rfl) ?_),Hm H (MH L)⟩;rw[<- V];simp
  simp only[if_neg X];by_cases W:k=16
  ·simp only[if_pos W]
   have V:kids.length=3:=U.resolve_left (by simp[W]);obtain⟨K,L⟩:=BN D { A with next:=A.next+1,aR:=if i then dh A.aR (A.next:Int) (ak (ay s1)) else A.aR } { B with next:=B.next+1,aR:=if i then dh B.aR (B.next:Int) (ak (ay C)) else B.aR } 5 A.next B.next (.node k x a e kids) (yc (l:=[]) (m:=[]) hs rfl);obtain⟨G,H⟩:=mW D kids i 0 2 s1 C _ _ E hs;obtain⟨v,u⟩:=mW D kids i 2 1 _ _ _ _ E (yc H (MH L));refine⟨((F _ _).trans (K.trans (G.trans v rfl) rfl) ?_),LP u⟩
   match kids,V with
   | [a,b,c],_=>simp[aD];omega
  simp only[if_neg W]
  have r:∀R S,wY 1 A R B S->wY (1+aD kids) A (ah I i kids 0 kids.length s1 R).1 B (ah J i kids 0 kids.length C S).1/\dE (ah I i kids 0 kids.length s1 R).2=dE (ah J i kids 0 kids.length C S).2:=fun R S q=>by
   obtain⟨G,H⟩:=mW D kids i 0 kids.length s1 C R S E hs;exact⟨q.trans G (by simp),H⟩
  apply r
  by_cases O:k=20
  ·simp only[if_pos O];exact(F _ _).trans (Ec _ _ _ _ _ _ _ (Jz hs x)) rfl
  simp only[if_neg O];by_cases P:k=22
  ·simp only[if_pos P];exact(F _ _).trans (Ec _ _ _ _ _ _ _ (D.fl x)) rfl
  simp only[if_neg P];by_cases Q:k=27
  ·simp only[if_pos Q];exact(F _ _).trans (Ec _ _ _ _ _ _ _ (D.gl x)) rfl
  simp only[if_neg Q];by_cases N:k=19
  ·simp only[if_pos N];exact(F _ _).trans (Ec _ _ _ _ _ _ _ (D.kd x 5)) rfl
  simp only[if_neg N];by_cases Z:k=9/\dM x=false
  ·simp only[if_pos Z];exact(F _ _).trans (Ec _ _ _ _ _ _ _ (D.kd x 3)) rfl
  simp only[if_neg Z];exact F _ _
theorem mW{E F:bC}(G:yo E F):∀(ts:List ae) (i:Bool) (A n:Nat) (s1 D:aS) (B C:RS),mH ts=true->dE s1=dE D ->
 wY (aD ((ts.drop A).take n)) B (ah E i ts A n s1 B).1 C (ah F i ts A n D C).1/\dE (ah E i ts A n s1 B).2=dE (ah F i ts A n D C).2
 | [],i,f,n,s1,D,B,C,_,hs=>by
  rw[ah,ah]
  simpa [aD] using⟨wY.refl B C,hs⟩
 | t::ts,i,f+1,n,s1,D,B,C,hin,hs=>by
  rw[mH,aad]at hin;rw[ah,ah,List.drop_succ_cons];exact mW G ts i f n s1 D B C hin.2 hs
 | t::ts,i,0,0,s1,D,B,C,hin,hs=>by
  rw[ah,ah]
  simpa [aD] using⟨wY.refl B C,hs⟩
 | t::ts,i,0,n+1,s1,D,B,C,hin,hs=>by
  rw[mH,aad]at hin;rw[ah,ah];obtain⟨H,I⟩:=O6 G t i s1 D B C hin.1 hs;obtain⟨J,K⟩:=mW G ts i 0 n _ _ _ _ hin.2 I;refine⟨H.trans J ?_,K⟩;simp[aD]
end
end Go.Proofs.YtoepemlnlpamlaaGreat
