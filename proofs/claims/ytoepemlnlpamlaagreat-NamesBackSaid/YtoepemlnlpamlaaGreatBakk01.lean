/- The law NamesBack holds for every text and every number: it returns true, and its arguments read as before. No condition. Part 1: LexM ParM NamM Ord1. -/
set_option maxRecDepth 100000
set_option maxHeartbeats 4000000
namespace Go.Proofs.YtoepemlnlpamlaaGreat
abbrev aaD:=@Nat.le_refl
abbrev aaE:=@Nat.le_trans
abbrev aaF:=@Bool.and_eq_true
abbrev aaG:=@Array.getElem?_eq_some_iff
abbrev aaH:=@List.getElem?_eq_getElem
abbrev aaI:=@Option.some.injEq
abbrev aaJ:=@List.getElem?_eq_some_iff
abbrev aaK:=@List.getElem?_cons_zero
abbrev aaL:=@List.getElem?_cons_succ
abbrev aaM:=@List.getElem?_toArray
abbrev aaN:=@List.getElem?_append_right
abbrev aaO:=@List.length_append
abbrev aaP:=@List.mem_of_getElem?
abbrev aaQ:=@List.length_cons
abbrev aP:=List UInt8
def aU(l:aP):ByteArray:=⟨l.toArray⟩
def bz(s:aP)(i:Nat):Nat:=(s.getD i 0).toNat
def qN(s:aP)(a b:Nat):aP:=(s.drop a).take (b - a)
def kJ(c:Nat):Bool:=decide (97<=c)&&decide (c<=122)
def fB(c:Nat):Bool:=decide (48<=c)&&decide (c<=57)
def qW(c:Nat):Bool:=decide (c=9) || decide (c=10) || decide (c=13) || decide (c=32)
def wm(c:Nat):Bool:=kJ c || fB c || decide (c=95)
def Pp:List aP:=[[114,101,99,111,114,100],[112,114,111,99],[118,97,114],[105,102],[101,108,115,101],[119,104,105,108,101],[102,111,114],[116,111],[114,101,116,117,114,110],[97,115,115,101,114,116],[97,110,100],[111,114],[110,111,116],[116,114,117,101],[102,97,108,115,101],[105,110,116],[98,111,111,108],[108,101,110]]
def Ou:List aP:=[[61,61],[33,61],[60,61],[62,61]]
def Gm:List aP:=[[60],[62],[61],[43],[45],[42],[47],[37],[40],[41],[123],[125],[91],[93],[44],[59],[58],[46]]
def rV(l:List aP)(s:aP):Bool:=l.any fun x=>decide (x=s)
def Ka(s:aP):Bool:=rV Pp s
def xy(s:aP)(at_:Nat):Nat:=
 if decide (at_+2<=s.length)&&rV Ou (qN s at_ (at_+2)) then 2 else if rV Gm (qN s at_ (at_+1)) then 1 else 0
def uq(s:aP)(at_:Nat):Bool:=kJ (bz s at_) || fB (bz s at_) || decide (0<xy s at_)
def gY(p:Nat->Bool):aP->Nat->Nat->Nat
 | _,0,a=>a
 | s,f+1,a=>if decide (a<s.length)&&p a then gY p s f (a+1) else a
def j6(s:aP):Nat->Nat->Nat
 | 0,a=>a
 | f+1,a=>if decide (a<s.length)&&(qW (bz s a) || decide (bz s a=35)) then(if bz s a=35 then j6 s f (gY (fun i=> !decide (bz s i=10)) s s.length a) else j6 s f (a+1)) else a
def gy(s:aP)(a:Nat):Nat×Nat:=
 if kJ (bz s a) then
  (if Ka (qN s a (gY (fun i=>wm (bz s i)) s s.length a)) then 1 else 0,gY (fun i=>wm (bz s i)) s s.length a)
 else if fB (bz s a) then(2,gY (fun i=>fB (bz s i)) s s.length a)
 else if 0<xy s a then(3,a+xy s a)
 else(4,gY (fun i=> !qW (bz s i)&& !decide (bz s i=35)&& !uq s i) s s.length a)
structure jl where
 kind:Nat
 from_:Nat
 at_:Nat
 end_:Nat
deriving DecidableEq
def ug(s:aP):Nat->Nat->List jl
 | 0,_=>[]
 | f+1,from_=>
  let a:=j6 s (s.length+1) from_
  if s.length<=a then [⟨5,from_,a,a⟩] else⟨(gy s a).1,from_,a,(gy s a).2⟩::ug s f (gy s a).2
def qO(s:aP):List jl:=ug s (s.length+1) 0
def xE:aP->Nat->Option Nat
 | [],n=>some n
 | c::r,n=>if fB c.toNat then xE r (10*n+(c.toNat - 48)) else none
def je(s:aP):Option Nat:=if s.length<1\/9<s.length then none else xE s 0
def xU(s:aP):Bool:=decide (1<=s.length)&&decide (s.length<=16)&&kJ (bz s 0)&& !Ka s&&decide ((gy s 0).2=s.length)
section
variable {p:Nat->Bool}{s:aP}
theorem FU:∀(f a0 a:Nat),a0<=a->a<=s.length->(∀j,a0<=j->j<a->p j=true)->(a<s.length->p a=false)->s.length<=f+a0->gY p s f a0=a:=by
 intro f
 induction f with
 | zero=>
  intro a0 a h1 h2 _ _ h5;have:a0=a:=by omega
  subst this;rfl
 | succ f ih=>
  intro a0 a h1 h2 h3 h4 h5;unfold gY;by_cases h:a0=a
  ·subst h
   by_cases hl:a0<s.length
   ·rw[h4 hl];simp
   ·simp[hl]
  ·have hp:=h3 a0 (aaD _) (by omega)
   rw[hp,decide_eq_true (by omega:a0<s.length),Bool.and_true,if_pos rfl];exact ih (a0+1) a (by omega) h2 (fun j hj hj2=>h3 j (by omega) hj2) h4 (by omega)
theorem Eu:∀(f a0:Nat),a0<=s.length->s.length<=f+a0 ->
 a0<=gY p s f a0/\gY p s f a0<=s.length/\(∀j,a0<=j->j<gY p s f a0->p j=true)/\(gY p s f a0<s.length->p (gY p s f a0)=false):=by
 intro f
 induction f with
 | zero=>
  intro a0 h1 h2;have:a0=s.length:=by omega
  subst this;exact⟨aaD _,aaD _,fun j h3 h4=>by simp only[gY]at h4;omega,fun h3=>by simp only[gY]at h3;omega⟩
 | succ f ih=>
  intro a0 h1 h2;unfold gY;by_cases h:(decide (a0<s.length)&&p a0)=true
  ·rw[if_pos h]
   simp at h;obtain⟨i1,i2,i3,i4⟩:=ih (a0+1) (by omega) (by omega);refine⟨by omega,i2,fun j h3 h4=>?_,i4⟩;by_cases hj:j=a0
   ·subst hj;exact h.2
   ·exact i3 j (by omega) h4
  ·rw[if_neg h]
   refine⟨aaD _,h1,fun j h3 h4=>by omega,fun h3=>?_⟩;simp at h;exact h h3
theorem FT{a:Nat}(h:a<s.length)(hp:p a=true):a<gY p s s.length a:=by
 obtain⟨i1,i2,i3,i4⟩:=Eu (p:=p) (s:=s) s.length a (by omega) (by omega);rcases Nat.lt_or_ge a (gY p s s.length a) with h1|h1
 ·exact h1
 ·have:gY p s s.length a=a:=by omega
  rw[this]at i4;rw[i4 h]at hp;cases hp
theorem Cy:∀(f a:Nat),a<=s.length->s.length<f+a->a<=j6 s f a/\j6 s f a<=s.length/\(j6 s f a<s.length->qW (bz s (j6 s f a))=false/\bz s (j6 s f a)≠35):=by
 intro f
 induction f with
 | zero=>intro a h1 h2;omega
 | succ f ih=>
  intro a h1 h2;unfold j6;by_cases h:(decide (a<s.length)&&(qW (bz s a) || decide (bz s a=35)))=true
  ·rw[if_pos h]
   simp at h;by_cases uD:bz s a=35
   ·rw[if_pos uD]
    have hr:=FT (p:=fun i=> !decide (bz s i=10)) h.1 (by simp[uD]);have hr2:=(Eu (p:=fun i=> !decide (bz s i=10)) (s:=s) s.length a h1 (by omega)).2.1;have:=ih _ hr2 (by omega);exact⟨by omega,this.2⟩
   ·rw[if_neg uD]
    have:=ih (a+1) (by omega) (by omega);exact⟨by omega,this.2⟩
  ·rw[if_neg h]
   refine⟨aaD _,h1,fun h3=>?_⟩;simp[h3]at h;exact h
theorem symM_le(a:Nat):xy s a<=2:=by unfold xy;split<;>(try split)<;>omega
theorem YN{a:Nat}(h:a<s.length):a+xy s a<=s.length:=by
 unfold xy;split
 ·rename_i h1
  simp at h1;omega
 ·split<;>omega
theorem Bh{a:Nat}(h:a<s.length)(hb:qW (bz s a)=false)(uD:bz s a≠35):a<(gy s a).2/\(gy s a).2<=s.length/\(gy s a).1<=4:=by
 have hle:=fun p=>(Eu (p:=p) (s:=s) s.length a (by omega) (by omega)).2.1
 unfold gy;by_cases h1:kJ (bz s a)=true
 ·rw[if_pos h1]
  refine⟨FT h (by simp[wm,h1]),hle _,?_⟩;simp only;split<;>omega
 ·rw[if_neg h1]
  by_cases h2:fB (bz s a)=true
  ·rw[if_pos h2]
   exact⟨FT h h2,hle _,by simp⟩
  ·rw[if_neg h2]
   by_cases h3:0<xy s a
   ·rw[if_pos h3]
    exact⟨by simp only;omega,YN h,by simp⟩
   ·rw[if_neg h3]
    refine⟨FT h ?_,hle _,by simp⟩;simp[hb,uD,uq,h1,h2,h3]
end
inductive aa where
 | node (k:Int) (t:ByteArray) (a e:Int) (kids:List aa)
def aa.kind:aa->Int| .node k _ _ _ _=>k
def aa.text:aa->ByteArray| .node _ t _ _ _=>t
def aa.at_:aa->Int| .node _ _ a _ _=>a
def aa.end_:aa->Int| .node _ _ _ e _=>e
def aa.kids:aa->List aa| .node _ _ _ _ l=>l
structure Dg where
 code:Int
 at_:Int
 end_:Int
 text:ByteArray
structure PS where
 k:Nat
 last:Nat
 ds:List Dg
section
variable (s:aP) (l:List jl)
def YK:jl:=⟨5,0,0,0⟩
def gq(k:Nat):jl:=l.getD k YK
def Ar(t:jl):aP:=qN s t.at_ t.end_
def bE(k:Nat):aP:=Ar s (gq l k)
def bG(p:PS):Nat:=(gq l p.k).kind
def nR(p:PS):aP:=if p.k+1<l.length then bE s l (p.k+1) else []
def ay(p:PS):PS:=⟨p.k+1,(gq l p.k).end_,p.ds⟩
def gZ(p:PS)(code:Int)(text:aP):PS:=
 match p.ds.getLast? with
 | some d=>if d.at_=((gq l p.k).at_:Int) then p else { p with ds:=p.ds++[⟨code,(gq l p.k).at_,(gq l p.k).end_,aU text⟩] }
 | none=> { p with ds:=p.ds++[⟨code,(gq l p.k).at_,(gq l p.k).end_,aU text⟩] }
def bB(p:PS)(w:aP):Bool:=decide (bG l p≠5)&&decide (bE s l p.k=w)
def bC(p:PS)(w:aP):PS:=if bB s l p w then ay l p else p
def aG(p:PS)(w:aP):PS:=if bB s l p w then ay l p else gZ l p 4 w
def cB(p:PS):aP:=if bG l p=0 then bE s l p.k else []
def cK(p:PS):PS:=if bG l p=0 then ay l p else gZ l p 4 [110,97,109,101]
def eG:aP->aP
 | 48::c::r=>eG (c::r)
 | x=>x
def bN(p:PS)(first:Nat)(kids:List aa):Int:=
 let a:Int:=if first<p.k then((gq l first).at_:Int) else(p.last:Int)
 match kids with
 | []=>a
 | t::_=>if t.at_<a then t.at_ else a
def aH(p:PS)(first:Nat)(kind:Int)(text:aP)(kids:List aa):aa:=.node kind (aU text) (bN l p first kids) p.last kids
def qa(p:PS):aa×PS:=
 if bB s l p [98,111,111,108] then(aH l (ay l p) p.k 9 [98,111,111,108] [],ay l p)
 else if bB s l p [105,110,116] then
  let p1:=ay l p
  if bB s l p1 [91] then
   let p2:=ay l p1
   let p4:=if bG l p2=2 then aG s l (ay l p2) [93] else aG s l (gZ l p2 4 [110,117,109,98,101,114]) [93]
   (aH l p4 p.k 10 (if bG l p2=2 then eG (bE s l p2.k) else []) [],p4)
  else(aH l p1 p.k 9 [105,110,116] [],p1)
 else if bG l p=0 then(aH l (ay l p) p.k 9 (bE s l p.k) [],ay l p)
 else(aH l (gZ l p 4 [116,121,112,101]) p.k 1 [] [],gZ l p 4 [116,121,112,101])
def ib(p:PS):aa×PS:=if bB s l p [58] then qa s l (ay l p) else(aH l p p.k 0 [] [],p)
def ja(p:PS):aa×PS:=
 let p1:=aG s l (cK l p) [58]
 if bB s l p1 [105,110,116] || bB s l p1 [98,111,111,108] then
  (aH l (ay l p1) p.k 4 (cB s l p) [aH l (ay l p1) p1.k 9 (bE s l p1.k) []],ay l p1)
 else
  let p2:=gZ l p1 4 [116,121,112,101]
  (aH l p2 p.k 4 (cB s l p) [aH l p2 p1.k 1 [] []],p2)
def kr:Nat->PS->List aa->Option (List aa×PS)
 | 0,_,_=>none
 | f+1,p,kids=>if bB s l p [44] then kr f (ja s l (ay l p)).2 (kids++[(ja s l (ay l p)).1]) else some (kids,p)
def lK(f:Nat)(p:PS):Option (aa×PS):=
 let p1:=cK l (ay l p)
 let p2:=aG s l p1 [123]
 match kr s l f (ja s l p2).2 [(ja s l p2).1] with
 | none=>none
 | some (kids,p3)=>some (aH l (aG s l p3 [125]) p.k 3 (cB s l (ay l p)) kids,aG s l p3 [125])
def fH(p:PS):aa×PS:=
 let p1:=bC s l p [118,97,114]
 let r:=ib s l (cK l p1)
 (aH l r.2 p.k (if bB s l p [118,97,114] then 8 else 7) (cB s l p1) [r.1],r.2)
def jd:Nat->PS->List aa->Option (List aa×PS)
 | 0,_,_=>none
 | f+1,p,kids=>if bB s l p [44] then jd f (fH s l (ay l p)).2 (kids++[(fH s l (ay l p)).1]) else some (kids,p)
def nN(f:Nat)(p:PS):Option (aa×PS):=
 let p1:=aG s l p [40]
 match (if bB s l p1 [41] then some ([],p1) else jd s l f (fH s l p1).2 [(fH s l p1).1]) with
 | none=>none
 | some (kids,p2)=>some (aH l (aG s l p2 [41]) p.k 6 [] kids,aG s l p2 [41])
def jL(p:PS):aa×PS:=(aH l (cK l p) p.k 20 (cB s l p) [],cK l p)
def jN(p:PS):Bool:=decide (bG l p=5) || bB s l p [125] || bB s l p [112,114,111,99] || bB s l p [114,101,99,111,114,100]
def Ck:List aP:=[[118,97,114],[105,102],[119,104,105,108,101],[102,111,114],[114,101,116,117,114,110],[97,115,115,101,114,116]]
def zq(p:PS):Bool:=decide (bG l p=1)&&rV Ck (bE s l p.k)
def pU(first:Nat):Nat->PS->Option PS
 | 0,_=>none
 | f+1,p=>
  if !jN s l p&&(decide (p.k=first) || !zq s l p) then
   (if bE s l p.k=[59] then some (ay l p) else pU first f (ay l p))
  else some p
def mR(f:Nat)(p:PS):Option (aa×PS):=
 match pU s l p.k f (gZ l p 6 []) with
 | none=>none
 | some p1=>some (aH l p1 p.k 1 [] [],p1)
def zK(lv:Nat):List aP:=
 if lv=1 then [[111,114]] else if lv=2 then [[97,110,100]] else if lv=4 then [[61,61],[33,61],[60],[60,61],[62],[62,61]] else if lv=5 then [[43],[45]] else if lv=6 then [[42],[47],[37]] else []
def xR(p:PS)(lv:Nat):Bool:=decide (bG l p≠5)&&rV (zK lv) (bE s l p.k)
def CF(p:PS):Bool:=decide (bG l p=0) || decide (bG l p=2) || bB s l p [116,114,117,101] || bB s l p [102,97,108,115,101] || bB s l p [108,101,110] || bB s l p [40] || bB s l p [91]
inductive Fn where
 | expr (lv:Nat)
 | qL (lv first:Nat) (x:aa)
 | operand
 | args
 | mM (kids:List aa)
 | place
 | stmt
 | block
 | nJ (kids:List aa)
 | branch
def one(r:Option (List aa×PS))(f:aa->PS->Option (List aa×PS)):Option (List aa×PS):=
 match r with
 | some ([x],p)=>f x p
 | _=>none
def xH(r:Option (List aa×PS))(f:List aa->PS->Option (List aa×PS)):Option (List aa×PS):=
 match r with
 | some (x,p)=>f x p
 | none=>none
def aJ:Nat->Fn->PS->Option (List aa×PS)
 | 0,_,_=>none
 | f+1,.expr lv,p=>
  if lv=3 then
   (if bB s l p [110,111,116] then one (aJ f (.expr 3) (ay l p)) fun x q=>some ([aH l q p.k 28 [110,111,116] [x]],q) else aJ f (.expr 4) p)
  else if lv=7 then
   (if bB s l p [45] then one (aJ f (.expr 7) (ay l p)) fun x q=>some ([aH l q p.k 28 [45] [x]],q) else aJ f .operand p)
  else one (aJ f (.expr (lv+1)) p) fun x q=>aJ f (.qL lv p.k x) q
 | f+1,.qL lv first x,p=>
  if xR s l p lv then
   one (aJ f (.expr (lv+1)) (ay l p)) fun y q=>
    let z:=aH l q first 29 (bE s l p.k) [x,y]
    if lv=4 then some ([z],q) else aJ f (.qL lv first z) q
  else some ([x],p)
 | f+1,.operand,p=>
  if bG l p=2 then some ([aH l (ay l p) p.k 24 (eG (bE s l p.k)) []],ay l p)
  else if bB s l p [116,114,117,101] || bB s l p [102,97,108,115,101] then some ([aH l (ay l p) p.k 25 (bE s l p.k) []],ay l p)
  else if decide (bG l p=0)&&decide (nR s l p=[40]) then
   xH (aJ f .args (ay l p)) fun kids q=>some ([aH l q p.k 27 (bE s l p.k) kids],q)
  else if bG l p=0 then aJ f .place p
  else if bB s l p [91] then
   one (aJ f (.expr 1) (ay l p)) fun x q=>xH (aJ f (.mM [x]) q) fun kids q2=>some ([aH l (aG s l q2 [93]) p.k 26 [] kids],aG s l q2 [93])
  else if bB s l p [108,101,110] then
   let p1:=aG s l (ay l p) [40]
   let p2:=aG s l (jL s l p1).2 [41]
   some ([aH l p2 p.k 23 [] [(jL s l p1).1]],p2)
  else if bB s l p [40] then one (aJ f (.expr 1) (ay l p)) fun x q=>some ([x],aG s l q [41])
  else some ([aH l (gZ l p 5 []) p.k 1 [] []],gZ l p 5 [])
 | f+1,.args,p=>
  let p1:=ay l p
  if bB s l p1 [41] then some ([],aG s l p1 [41])
  else one (aJ f (.expr 1) p1) fun x q=>xH (aJ f (.mM [x]) q) fun kids q2=>some (kids,aG s l q2 [41])
 | f+1,.mM kids,p=>
  if bB s l p [44] then one (aJ f (.expr 1) (ay l p)) fun x q=>aJ f (.mM (kids++[x])) q else some (kids,p)
 | f+1,.place,p=>
  let x:=(jL s l p).1
  let p1:=(jL s l p).2
  if bB s l p1 [91] then one (aJ f (.expr 1) (ay l p1)) fun y q=>some ([aH l (aG s l q [93]) p.k 21 [] [x,y]],aG s l q [93])
  else if bB s l p1 [46] then some ([aH l (cK l (ay l p1)) p.k 22 (cB s l (ay l p1)) [x]],cK l (ay l p1))
  else some ([x],p1)
 | f+1,.stmt,p=>
  if bB s l p [118,97,114] then
   let p1:=ay l p
   let r:=ib s l (cK l p1)
   one (aJ f (.expr 1) (aG s l r.2 [61])) fun x q=>some ([aH l (aG s l q [59]) p.k 12 (cB s l p1) [r.1,x]],aG s l q [59])
  else if bB s l p [105,102] then aJ f .branch p
  else if bB s l p [119,104,105,108,101] then
   one (aJ f (.expr 1) (ay l p)) fun c q=>one (aJ f .block q) fun b q2=>some ([aH l q2 p.k 15 [] [c,b]],q2)
  else if bB s l p [102,111,114] then
   let p1:=ay l p
   one (aJ f (.expr 1) (aG s l (cK l p1) [61])) fun x q=>one (aJ f (.expr 1) (aG s l q [116,111])) fun y q2=>one (aJ f .block q2) fun b q3=>some ([aH l q3 p.k 16 (cB s l p1) [x,y,b]],q3)
  else if bB s l p [114,101,116,117,114,110] then
   let p1:=ay l p
   if CF s l p1 || bB s l p1 [110,111,116] || bB s l p1 [45] then one (aJ f (.expr 1) p1) fun x q=>some ([aH l (aG s l q [59]) p.k 17 [] [x]],aG s l q [59])
   else some ([aH l (aG s l p1 [59]) p.k 17 [] [aH l p1 p1.k 0 [] []]],aG s l p1 [59])
  else if bB s l p [97,115,115,101,114,116] then
   one (aJ f (.expr 1) (ay l p)) fun x q=>some ([aH l (aG s l q [59]) p.k 18 [] [x]],aG s l q [59])
  else if decide (bG l p=0)&&decide (nR s l p=[40]) then
   xH (aJ f .args (ay l p)) fun kids q=>some ([aH l (aG s l q [59]) p.k 19 (bE s l p.k) kids],aG s l q [59])
  else if bG l p=0 then
   one (aJ f .place p) fun x q=>one (aJ f (.expr 1) (aG s l q [61])) fun y q2=>some ([aH l (aG s l q2 [59]) p.k 13 [] [x,y]],aG s l q2 [59])
  else match mR s l f p with
   | none=>none
   | some (x,q)=>some ([x],q)
 | f+1,.block,p=>
  if bB s l p [123] then
   xH (aJ f (.nJ []) (ay l p)) fun kids q=>some ([aH l (aG s l q [125]) p.k 11 [] kids],aG s l q [125])
  else some ([aH l (gZ l p 4 [123]) p.k 11 [] []],gZ l p 4 [123])
 | f+1,.nJ kids,p=>
  if jN s l p then some (kids,p) else one (aJ f .stmt p) fun x q=>aJ f (.nJ (kids++[x])) q
 | f+1,.branch,p=>
  one (aJ f (.expr 1) (ay l p)) fun c q=>one (aJ f .block q) fun b q2=>
   if bB s l q2 [101,108,115,101] then
    (if bB s l (ay l q2) [105,102] then one (aJ f .branch (ay l q2)) fun o q3=>some ([aH l q3 p.k 14 [] [c,b,o]],q3)
    else one (aJ f .block (ay l q2)) fun o q3=>some ([aH l q3 p.k 14 [] [c,b,o]],q3))
   else some ([aH l q2 p.k 14 [] [c,b,aH l q2 q2.k 0 [] []]],q2)
def qm(f:Nat)(p:PS):Option (aa×PS):=
 let p1:=cK l (ay l p)
 match nN s l f p1 with
 | none=>none
 | some (x,p2)=>
  let r:=ib s l p2
  match aJ s l f .block r.2 with
  | some ([b],p3)=>some (aH l p3 p.k 5 (cB s l (ay l p)) [x,r.1,b],p3)
  | _=>none
def mO:Nat->PS->Option PS
 | 0,_=>none
 | f+1,p=>if decide (bG l p≠5)&& !bB s l p [114,101,99,111,114,100]&& !bB s l p [112,114,111,99] then mO f (ay l p) else some p
def jw:Nat->PS->List aa->Option (List aa×PS)
 | 0,_,_=>none
 | f+1,p,kids=>
  if bG l p=5 then some (kids,p)
  else if bB s l p [114,101,99,111,114,100] then(match lK s l f p with|none=>none|some (x,q)=>jw f q (kids++[x]))
  else if bB s l p [112,114,111,99] then(match qm s l f p with|none=>none|some (x,q)=>jw f q (kids++[x]))
  else match mO s l f (gZ l p 7 []) with
   | none=>none
   | some q=>jw f q (kids++[aH l q p.k 1 [] []])
end
def iK(s:aP):List jl:=(qO s).filter fun t=>decide (t.kind≠4)
def sH(s:aP)(t:jl):Int:=
 if t.kind=4 then 1 else if t.kind=2/\(je (Ar s t)).isNone=true then 2 else if t.kind=0/\16<(t.end_:Int) - t.at_ then 3 else 0
def ic(s:aP):List Dg:=(qO s).filterMap fun t=>if 0<sH s t then some ⟨sH s t,t.at_,t.end_,aU []⟩ else none
def gN:List Dg->List Dg->List Dg
 | [],b=>b
 | a,[]=>a
 | x::a,y::b=>if x.at_<=y.at_ then x::gN a (y::b) else y::gN (x::a) b
termination_by a b=>a.length+b.length
def lL(f:Nat)(s:aP):Option (aa×List Dg):=
 match jw s (iK s) f ⟨0,0,[]⟩ [] with
 | none=>none
 | some (kids,p)=>some (.node 2 (aU []) 0 s.length kids,gN (ic s) p.ds)
structure Dc where
 kind:Int
 name:ByteArray
 node:Int
 owner:Int
 deriving DecidableEq
abbrev jr:=List (ByteArray×Int)
abbrev aK:=List jr
def bJ{K V:Type}[DecidableEq K]:List (K×V)->K->Option V
 | [],_=>none
 | x::l,k=>if k=x.1 then some x.2 else bJ l k
def cO{K V:Type}[DecidableEq K]:List (K×V)->K->V->List (K×V)
 | [],k,v=>[(k,v)]
 | x::l,k,v=>if k=x.1 then(k,v)::l else x::cO l k v
abbrev aN(l:jr)(n:ByteArray):Option Int:=bJ l n
def bV:aK->ByteArray->Option Int
 | [],_=>none
 | x::s,n=>match aN x n with|some k=>some k|none=>bV s n
def ak(s:aK):List Int:=s.flatMap fun l=>l.map (·.2)
def aj(l:List Int):List Int:=l.mergeSort fun a b=>decide (a<=b)
def fP(s:aK)(l:jr):aK:=
 match s with
 | []=>[]
 | x::s=>(l.foldl (fun a y=>cO a y.1 y.2) x)::s
structure aW where
 globals:jr
 fields:jr
 kinds:List (Int×Int)
mutual
def ah:aa->Nat
 | .node _ _ _ _ kids=>1+ag kids
def ag:List aa->Nat
 | []=>0
 | t::ts=>ah t+ag ts
end
def jU(l:jr)(n:ByteArray)(k:Int):jr:=if (aN l n).isSome then l else cO l n k
def jW:List aa->Nat->jr->jr
 | [],_,l=>l
 | f::fs,at_,l=>jW fs (at_+ah f) (if f.kind=4 then jU l f.text at_ else l)
def lH:List aa->Nat->aW->aW
 | [],_,g=>g
 | k::ks,n,g=>lH ks (n+ah k) ⟨jU g.globals k.text n,jW k.kids (n+1) g.fields,cO g.kinds (n:Int) k.kind⟩
def eP(t:aa):aW:=lH t.kids 1 ⟨[],[],[]⟩
structure RS where
 ds:List Dc
 uses:List Int
 bQ:List (Int×List Int)
 aO:List (Int×Dg)
 next:Nat
 owner:Int
def oI(r:RS)(code:Int)(n:Nat)(t:aa):RS:={ r with aO:=r.aO++[((n:Int),⟨code,t.at_,t.end_,t.text⟩)] }
def iR(r:RS)(kind:Int)(n:Nat)(t:aa):RS:=
 { r with ds:=r.ds++[⟨kind,t.text,n,if kind=0\/kind=2 then -1 else r.owner⟩],uses:=r.uses.set n (n:Int) }
def aQ(r:RS)(kind:Int)(n:Nat)(t:aa)(already:Bool):RS:=if already then oI r 9 n t else iR r kind n t
def aA(G:aW)(r:RS)(kind:Int)(n:Nat)(t:aa)(s:aK):RS×aK:=
 if (bV s t.text).isSome || (aN G.globals t.text).isSome then(oI r 9 n t,s) else(iR r kind n t,fP s [(t.text,(n:Int))])
def fC(r:RS)(n:Nat)(t:aa)(En:Option Int):RS:=
 match En with
 | none=>oI r 8 n t
 | some k=> { r with uses:=r.uses.set n k }
def jP(G:aW)(k:Int):Int:=(bJ G.kinds k).getD 0
def dC(t:ByteArray):Bool:=decide (t=⟨#[105,110,116]⟩) || decide (t=⟨#[98,111,111,108]⟩)
mutual
def aF(G:aW)(inside:Bool):aa->aK->RS->RS×aK
 | .node k x a e kids,s,r0=>
  let t:aa:=.node k x a e kids
  let n:=r0.next
  let r:RS:={ r0 with next:=n+1,bQ:=if inside then cO r0.bQ (n:Int) (aj (ak s)) else r0.bQ }
  let En:=(aN G.globals x).getD 0
  if k=3 then ae G inside kids 0 kids.length s { aQ r 0 n t (decide (En≠n)) with owner:=n }
  else if k=4 then ae G inside kids 0 kids.length s (aQ r 1 n t (decide ((aN G.fields x).getD 0≠n)))
  else if k=5 then
   let r1:RS:={ aQ r 2 n t (decide (En≠n)) with owner:=n }
   let q:=ae G false kids 0 2 [[]] r1
   ((ae G true kids 2 1 ([]::q.2) q.1).1,s)
  else if k=7\/k=8 then
   let q:=aA G r 3 n t s
   ae G inside kids 0 kids.length q.2 q.1
  else if k=11 then
   let q:=ae G inside kids 0 kids.length ([]::s) r
   (q.1,q.2.tail)
  else if k=12 then
   let q:=aA G r 4 n t ([]::s)
   let q2:=ae G inside kids 0 2 s q.1
   (q2.1,fP q2.2 (q.2.headD []))
  else if k=16 then
   let q:=aA G r 5 n t ([]::s)
   let q2:=ae G inside kids 0 2 s q.1
   let q3:=ae G inside kids 2 1 (q.2.headD []::q2.2) q2.1
   (q3.1,q3.2.tail)
  else
   let r1:=if k=20 then fC r n t (bV s x)
    else if k=22 then fC r n t (aN G.fields x)
    else if k=27 then fC r n t (aN G.globals x)
    else if k=19 then fC r n t ((aN G.globals x).filter fun j=>decide (jP G j=5))
    else if k=9/\dC x=false then fC r n t ((aN G.globals x).filter fun j=>decide (jP G j=3))
    else r
   ae G inside kids 0 kids.length s r1
def ae(G:aW)(inside:Bool):List aa->Nat->Nat->aK->RS->RS×aK
 | [],_,_,s,r=>(r,s)
 | _::ts,from_+1,n,s,r=>ae G inside ts from_ n s r
 | _::_,0,0,s,r=>(r,s)
 | t::ts,0,n+1,s,r=>
  let q:=aF G inside t s r
  ae G inside ts 0 n q.2 q.1
end
def uI:List Dc->Nat->List (Int×Int)->List (Int×Int)
 | [],_,l=>l
 | d::ds,i,l=>uI ds (i+1) (cO l d.node (i:Int))
def mK(ds:List Dc)(u:Int):Int:=(bJ (uI ds 0 [(-1,-1)]) u).getD 0
def aR(t:aa):RS:=
 let r:=(aF (eP t) false t [] ⟨[],List.replicate (ah t) (-1),[],[],0,0⟩).1
 { r with uses:=r.uses.map (mK r.ds),bQ:=r.bQ.map fun x=>(x.1,x.2.map (mK r.ds)) }
mutual
def ny:aa->List (List ByteArray)->List ByteArray->List ByteArray
 | .node k x _ _ kids,s,out=>
  uO k x kids 0 ([]::s) (if k=20 then(if (s.any fun l=>l.contains x) || out.contains x then out else out++[x]) else out)
def uO(k:Int)(x:ByteArray):List aa->Nat->List (List ByteArray)->List ByteArray->List ByteArray
 | [],_,_,out=>out
 | t::ts,i,s,out=>
  uO k x ts (i+1) (if t.kind=12 then(match s with| []=>[]|l::s=>(l++[t.text])::s) else s) (ny t (if k=16/\i=2 then [x]::s else s) out)
end
def aC(r:RS)(i:Bool)(v:List Int):RS:={ r with next:=r.next+1,bQ:=if i then cO r.bQ (r.next:Int) v else r.bQ }
def gH(G:aW)(s:aK)(r u:RS)(t:aa):RS:=
 if t.kind=20 then fC u r.next t (bV s t.text)
 else if t.kind=22 then fC u r.next t (aN G.fields t.text)
 else if t.kind=27 then fC u r.next t (aN G.globals t.text)
 else if t.kind=19 then fC u r.next t ((aN G.globals t.text).filter fun j=>decide (jP G j=5))
 else if t.kind=9/\dC t.text=false then fC u r.next t ((aN G.globals t.text).filter fun j=>decide (jP G j=3))
 else u
theorem bY(G:aW)(i:Bool)(k:Int)(x:ByteArray)(a e:Int)(kids:List aa)(s:aK)(r:RS):aF G i (.node k x a e kids) s r=
 if k=3 then ae G i kids 0 kids.length s { aQ (aC r i (aj (ak s))) 0 r.next (.node k x a e kids) (decide ((aN G.globals x).getD 0≠(r.next:Int))) with owner:=(r.next:Int) }
 else if k=4 then ae G i kids 0 kids.length s (aQ (aC r i (aj (ak s))) 1 r.next (.node k x a e kids) (decide ((aN G.fields x).getD 0≠(r.next:Int))))
 else if k=5 then((ae G true kids 2 1 ([]::(ae G false kids 0 2 [[]] { aQ (aC r i (aj (ak s))) 2 r.next (.node k x a e kids) (decide ((aN G.globals x).getD 0≠(r.next:Int))) with owner:=(r.next:Int) }).2) (ae G false kids 0 2 [[]] { aQ (aC r i (aj (ak s))) 2 r.next (.node k x a e kids) (decide ((aN G.globals x).getD 0≠(r.next:Int))) with owner:=(r.next:Int) }).1).1,s)
 else if k=7\/k=8 then ae G i kids 0 kids.length (aA G (aC r i (aj (ak s))) 3 r.next (.node k x a e kids) s).2 (aA G (aC r i (aj (ak s))) 3 r.next (.node k x a e kids) s).1
 else if k=11 then((ae G i kids 0 kids.length ([]::s) (aC r i (aj (ak s)))).1,(ae G i kids 0 kids.length ([]::s) (aC r i (aj (ak s)))).2.tail)
 else if k=12 then((ae G i kids 0 2 s (aA G (aC r i (aj (ak s))) 4 r.next (.node k x a e kids) ([]::s)).1).1,fP (ae G i kids 0 2 s (aA G (aC r i (aj (ak s))) 4 r.next (.node k x a e kids) ([]::s)).1).2 ((aA G (aC r i (aj (ak s))) 4 r.next (.node k x a e kids) ([]::s)).2.headD []))
 else if k=16 then((ae G i kids 2 1 ((aA G (aC r i (aj (ak s))) 5 r.next (.node k x a e kids) ([]::s)).2.headD []::(ae G i kids 0 2 s (aA G (aC r i (aj (ak s))) 5 r.next (.node k x a e kids) ([]::s)).1).2) (ae G i kids 0 2 s (aA G (aC r i (aj (ak s))) 5 r.next (.node k x a e kids) ([]::s)).1).1).1,
  (ae G i kids 2 1 ((aA G (aC r i (aj (ak s))) 5 r.next (.node k x a e kids) ([]::s)).2.headD []::(ae G i kids 0 2 s (aA G (aC r i (aj (ak s))) 5 r.next (.node k x a e kids) ([]::s)).1).2) (ae G i kids 0 2 s (aA G (aC r i (aj (ak s))) 5 r.next (.node k x a e kids) ([]::s)).1).1).2.tail)
 else ae G i kids 0 kids.length s (gH G s r (aC r i (aj (ak s))) (.node k x a e kids)):=by
 rw[aF];rfl
mutual
def K7:aa->Bool
 | .node k _ _ _ kids=>decide (k≠2/\k≠3/\k≠4/\k≠5)&&(decide (k≠12) || decide (kids.length=2))&&(decide (k≠16) || decide (kids.length=3))&&uJ kids
def uJ:List aa->Bool
 | []=>true
 | t::ts=>K7 t&&uJ ts
end
theorem aah{ts:List aa}:uJ ts=true->∀t∈ts,K7 t=true:=by
 induction ts with
 | nil=>intro _ t h;cases h
 | cons a ts ih=>
  intro h t ht;rw[uJ,aaF]at h;rcases List.mem_cons.1 ht with rfl|ht
  ·exact h.1
  ·exact ih h.2 t ht
def di(s:aK):List (List ByteArray):=s.map fun l=>l.map (·.1)
theorem Cb{K V:Type}[DecidableEq K]:∀(l:List (K×V)) (k:K),(bJ l k).isSome=(l.map (·.1)).any fun y=>decide (k=y)
 | [],_=>rfl
 | x::l,k=>by
  rw[bJ,List.map_cons,List.any_cons];by_cases h:k=x.1
  ·rw[if_pos h,decide_eq_true h];rfl
  ·rw[if_neg h,decide_eq_false h,Cb l k];rfl
theorem BB:∀(s:aK) (x:ByteArray),(bV s x).isSome=(di s).any fun l=>l.any fun y=>decide (x=y)
 | [],_=>rfl
 | l::s,x=>by
  have h1:(bJ l x).isSome=_:=Cb l x;have h2:=BB s x;unfold di at h2⊢;rw[List.map_cons,List.any_cons,<- h1,<- h2];rw[bV]
  cases h:aN l x with
  | none=>rw[show bJ l x=none from h];rfl
  | some k=>rw[show bJ l x=some k from h];rfl
theorem GX{s1 s2:aK}(h:di s1=di s2)(x:ByteArray):(bV s1 x).isSome=(bV s2 x).isSome:=by
 rw[BB,BB,h]
theorem MH{K V W:Type}[DecidableEq K]:∀(l:List (K×V)) (m:List (K×W)) (k:K) (v:V) (u:W),l.map (·.1)=m.map (·.1)->(cO l k v).map (·.1)=(cO m k u).map (·.1)
 | [],[],_,_,_,_=>rfl
 | [],_::_,_,_,_,h=>by cases h
 | _::_,[],_,_,_,h=>by cases h
 | x::l,y::m,k,v,u,h=>by
  simp only[List.map_cons,List.cons.injEq]at h;rw[cO,cO,h.1];by_cases hk:k=y.1
  ·rw[if_pos hk,if_pos hk,List.map_cons,List.map_cons,h.2]
  ·rw[if_neg hk,if_neg hk,List.map_cons,List.map_cons,h.1,MH l m k v u h.2]
theorem KE:∀(a b l m:jr),l.map (·.1)=m.map (·.1)->a.map (·.1)=b.map (·.1)->(l.foldl (fun a y=>cO a y.1 y.2) a).map (·.1)=(m.foldl (fun a y=>cO a y.1 y.2) b).map (·.1)
 | _,_,[],[],_,h=>h
 | _,_,[],_::_,h,_=>by cases h
 | _,_,_::_,[],h,_=>by cases h
 | a,b,x::l,y::m,h,h2=>by
  simp only[List.map_cons,List.cons.injEq]at h;rw[List.foldl_cons,List.foldl_cons];refine KE _ _ l m h.2 ?_;rw[h.1];exact MH a b _ _ _ h2
theorem Fu{s1 s2:aK}{l m:jr}(h:di s1=di s2)(hl:l.map (·.1)=m.map (·.1)):di (fP s1 l)=di (fP s2 m):=by
 cases s1 with
 | nil=>cases s2 with
  | nil=>rfl
  | cons b s2=>cases h
 | cons a s1=>cases s2 with
  | nil=>cases h
  | cons b s2=>
   unfold di at h⊢;simp only[List.map_cons,List.cons.injEq]at h;simp only[fP,List.map_cons,h.2];rw[KE a b l m hl h.1]
theorem JE{s1 s2:aK}(h:di s1=di s2):di s1.tail=di s2.tail:=by
 unfold di at h⊢;rw[List.map_tail,List.map_tail,h]
theorem wR{s1 s2:aK}{l m:jr}(h:di s1=di s2)(hl:l.map (·.1)=m.map (·.1)):di (l::s1)=di (m::s2):=by
 unfold di at h⊢;rw[List.map_cons,List.map_cons,h,hl]
theorem Ko{s1 s2:aK}(h:di s1=di s2):(s1.headD []).map (·.1)=(s2.headD []).map (·.1):=by
 cases s1 with
 | nil=>cases s2 with
  | nil=>rfl
  | cons b s2=>cases h
 | cons a s1=>cases s2 with
  | nil=>cases h
  | cons b s2=>
   unfold di at h;simp only[List.map_cons,List.cons.injEq]at h;exact h.1
structure wX (G1 G2:aW):Prop where
 gl:∀x,(aN G1.globals x).isSome=(aN G2.globals x).isSome
 fl:∀x,(aN G1.fields x).isSome=(aN G2.fields x).isSome
 kd:∀x (K:Int),((aN G1.globals x).filter fun j=>decide (jP G1 j=K)).isSome=((aN G2.globals x).filter fun j=>decide (jP G2 j=K)).isSome
theorem wX.refl(G:aW):wX G G:=⟨fun _=>rfl,fun _=>rfl,fun _ _=>rfl⟩
structure Gr (m:Nat) (r1 q1 r2 q2:RS) (p d:Nat):Prop where
 p1:q1.aO.length=r1.aO.length+p
 p2:q2.aO.length=r2.aO.length+p
 d1:q1.ds.length=r1.ds.length+d
 d2:q2.ds.length=r2.ds.length+d
 n1:q1.next=r1.next+m
 n2:q2.next=r2.next+m
def vP(m:Nat)(r1 q1 r2 q2:RS):Prop:=∃p d,Gr m r1 q1 r2 q2 p d
theorem vP.trans{m m' n:Nat}{r1 q1 u1 r2 q2 u2:RS}(h:vP m r1 q1 r2 q2)(k:vP m' q1 u1 q2 u2)(hn:n=m+m'):vP n r1 u1 r2 u2:=by
 obtain⟨p,d,h⟩:=h;obtain⟨p',d',k⟩:=k;refine⟨p+p',d+d',?_,?_,?_,?_,?_,?_⟩
 ·rw[k.p1,h.p1];omega
 ·rw[k.p2,h.p2];omega
 ·rw[k.d1,h.d1];omega
 ·rw[k.d2,h.d2];omega
 ·rw[k.n1,h.n1];omega
 ·rw[k.n2,h.n2];omega
theorem vP.refl(r1 r2:RS):vP 0 r1 r1 r2 r2:=⟨0,0,rfl,rfl,rfl,rfl,rfl,rfl⟩
theorem Ti(r1 r2:RS)(c:Int)(n1 n2:Nat)(t:aa):vP 0 r1 (oI r1 c n1 t) r2 (oI r2 c n2 t):=⟨1,0,by simp[oI],by simp[oI],rfl,rfl,rfl,rfl⟩
theorem ZY(r1 r2:RS)(c:Int)(n1 n2:Nat)(t:aa):vP 0 r1 (iR r1 c n1 t) r2 (iR r2 c n2 t):=⟨0,1,rfl,rfl,by simp[iR],by simp[iR],rfl,rfl⟩
theorem Ch(r1 r2:RS)(n1 n2:Nat)(t:aa)(a b:Option Int)(h:a.isSome=b.isSome):vP 0 r1 (fC r1 n1 t a) r2 (fC r2 n2 t b):=by
 cases a with
 | none=>cases b with
  | none=>exact Ti _ _ _ _ _ _
  | some y=>cases h
 | some x=>cases b with
  | none=>cases h
  | some y=>exact⟨0,0,rfl,rfl,rfl,rfl,rfl,rfl⟩
theorem zX{G1 G2:aW}(hG:wX G1 G2)(r1 r2:RS)(c:Int)(n1 n2:Nat)(t:aa){s1 s2:aK}(hs:di s1=di s2):
 vP 0 r1 (aA G1 r1 c n1 t s1).1 r2 (aA G2 r2 c n2 t s2).1/\di (aA G1 r1 c n1 t s1).2=di (aA G2 r2 c n2 t s2).2:=by
 unfold aA;rw[GX hs,hG.gl];split
 ·exact⟨Ti _ _ _ _ _ _,hs⟩
 ·exact⟨ZY _ _ _ _ _ _,Fu hs rfl⟩
mutual
theorem XN{G1 G2:aW}(hG:wX G1 G2):∀(t:aa) (i:Bool) (s1 s2:aK) (r1 r2:RS),K7 t=true->di s1=di s2 ->
 vP (ah t) r1 (aF G1 i t s1 r1).1 r2 (aF G2 i t s2 r2).1/\di (aF G1 i t s1 r1).2=di (aF G2 i t s2 r2).2
 | .node k x a e kids,i,s1,s2,r1,r2,hin,hs=>by
  rw[K7]at hin;simp only[aaF,Bool.or_eq_true,decide_eq_true_eq]at hin;obtain⟨⟨⟨⟨k2,k3,k4,k5⟩,h12⟩,h16⟩,hks⟩:=hin;have h0:∀v1 v2,vP 1 r1 { r1 with next:=r1.next+1,bQ:=v1 } r2 { r2 with next:=r2.next+1,bQ:=v2 }:=fun v1 v2=>⟨0,0,rfl,rfl,rfl,rfl,rfl,rfl⟩
  rw[aF,aF,ah];simp only[if_neg k3,if_neg k4,if_neg k5];by_cases h78:k=7\/k=8
  ·simp only[if_pos h78]
   obtain⟨a1,a2⟩:=zX hG { r1 with next:=r1.next+1,bQ:=if i then cO r1.bQ (r1.next:Int) (aj (ak s1)) else r1.bQ } { r2 with next:=r2.next+1,bQ:=if i then cO r2.bQ (r2.next:Int) (aj (ak s2)) else r2.bQ } 3 r1.next r2.next (.node k x a e kids) hs;obtain⟨b1,b2⟩:=mh hG kids i 0 kids.length _ _ _ _ hks a2;refine⟨((h0 _ _).trans (a1.trans b1 rfl) ?_),b2⟩;simp
  simp only[if_neg h78];by_cases h11:k=11
  ·simp only[if_pos h11]
   obtain⟨b1,b2⟩:=mh hG kids i 0 kids.length ([]::s1) ([]::s2) { r1 with next:=r1.next+1,bQ:=if i then cO r1.bQ (r1.next:Int) (aj (ak s1)) else r1.bQ } { r2 with next:=r2.next+1,bQ:=if i then cO r2.bQ (r2.next:Int) (aj (ak s2)) else r2.bQ } hks (wR hs rfl);refine⟨(h0 _ _).trans b1 ?_,JE b2⟩;simp
  simp only[if_neg h11];by_cases pG:k=12
  ·simp only[if_pos pG]
   have hl:kids.length=2:=h12.resolve_left (by simp[pG]);obtain⟨a1,a2⟩:=zX hG { r1 with next:=r1.next+1,bQ:=if i then cO r1.bQ (r1.next:Int) (aj (ak s1)) else r1.bQ } { r2 with next:=r2.next+1,bQ:=if i then cO r2.bQ (r2.next:Int) (aj (ak s2)) else r2.bQ } 4 r1.next r2.next (.node k x a e kids) (wR (l:=[]) (m:=[]) hs rfl);obtain⟨b1,b2⟩:=mh hG kids i 0 2 s1 s2 _ _ hks hs;refine⟨((h0 _ _).trans (a1.trans b1 rfl) ?_),Fu b2 (Ko a2)⟩;rw[<- hl];simp
  simp only[if_neg pG];by_cases qI:k=16
  ·simp only[if_pos qI]
   have hl:kids.length=3:=h16.resolve_left (by simp[qI]);obtain⟨a1,a2⟩:=zX hG { r1 with next:=r1.next+1,bQ:=if i then cO r1.bQ (r1.next:Int) (aj (ak s1)) else r1.bQ } { r2 with next:=r2.next+1,bQ:=if i then cO r2.bQ (r2.next:Int) (aj (ak s2)) else r2.bQ } 5 r1.next r2.next (.node k x a e kids) (wR (l:=[]) (m:=[]) hs rfl);obtain⟨b1,b2⟩:=mh hG kids i 0 2 s1 s2 _ _ hks hs;obtain⟨c1,c2⟩:=mh hG kids i 2 1 _ _ _ _ hks (wR b2 (Ko a2));refine⟨((h0 _ _).trans (a1.trans (b1.trans c1 rfl) rfl) ?_),JE c2⟩
   match kids,hl with
   | [a,b,c],_=>simp[ag];omega
  simp only[if_neg qI]
  have hb:∀u1 u2,vP 1 r1 u1 r2 u2->vP (1+ag kids) r1 (ae G1 i kids 0 kids.length s1 u1).1 r2 (ae G2 i kids 0 kids.length s2 u2).1/\di (ae G1 i kids 0 kids.length s1 u1).2=di (ae G2 i kids 0 kids.length s2 u2).2:=fun u1 u2 hu=>by
   obtain⟨b1,b2⟩:=mh hG kids i 0 kids.length s1 s2 u1 u2 hks hs;exact⟨hu.trans b1 (by simp),b2⟩
  apply hb
  by_cases h20:k=20
  ·simp only[if_pos h20];exact(h0 _ _).trans (Ch _ _ _ _ _ _ _ (GX hs x)) rfl
  simp only[if_neg h20];by_cases h22:k=22
  ·simp only[if_pos h22];exact(h0 _ _).trans (Ch _ _ _ _ _ _ _ (hG.fl x)) rfl
  simp only[if_neg h22];by_cases h27:k=27
  ·simp only[if_pos h27];exact(h0 _ _).trans (Ch _ _ _ _ _ _ _ (hG.gl x)) rfl
  simp only[if_neg h27];by_cases h19:k=19
  ·simp only[if_pos h19];exact(h0 _ _).trans (Ch _ _ _ _ _ _ _ (hG.kd x 5)) rfl
  simp only[if_neg h19];by_cases h9:k=9/\dC x=false
  ·simp only[if_pos h9];exact(h0 _ _).trans (Ch _ _ _ _ _ _ _ (hG.kd x 3)) rfl
  simp only[if_neg h9];exact h0 _ _
theorem mh{G1 G2:aW}(hG:wX G1 G2):∀(ts:List aa) (i:Bool) (from_ n:Nat) (s1 s2:aK) (r1 r2:RS),uJ ts=true->di s1=di s2 ->
 vP (ag ((ts.drop from_).take n)) r1 (ae G1 i ts from_ n s1 r1).1 r2 (ae G2 i ts from_ n s2 r2).1/\di (ae G1 i ts from_ n s1 r1).2=di (ae G2 i ts from_ n s2 r2).2
 | [],i,f,n,s1,s2,r1,r2,_,hs=>by
  rw[ae,ae]
  simpa [ag] using⟨vP.refl r1 r2,hs⟩
 | t::ts,i,f+1,n,s1,s2,r1,r2,hin,hs=>by
  rw[uJ,aaF]at hin;rw[ae,ae,List.drop_succ_cons];exact mh hG ts i f n s1 s2 r1 r2 hin.2 hs
 | t::ts,i,0,0,s1,s2,r1,r2,hin,hs=>by
  rw[ae,ae]
  simpa [ag] using⟨vP.refl r1 r2,hs⟩
 | t::ts,i,0,n+1,s1,s2,r1,r2,hin,hs=>by
  rw[uJ,aaF]at hin;rw[ae,ae];obtain⟨a1,a2⟩:=XN hG t i s1 s2 r1 r2 hin.1 hs;obtain⟨b1,b2⟩:=mh hG ts i 0 n _ _ _ _ hin.2 a2;refine⟨a1.trans b1 ?_,b2⟩;simp[ag]
end
end Go.Proofs.YtoepemlnlpamlaaGreat
