/- The law NamesBack holds for every text and every number: it returns true, and its arguments read as before. No condition. Part 35: Ints Awk1 Awk2. -/
import Derived.Test.YtoepemlnlpamlaaGreatBakk16
import Derived.Test.YtoepemlnlpamlaaGreatBakk18
import Derived.Test.YtoepemlnlpamlaaGreatBakk34
set_option maxRecDepth 100000
set_option maxHeartbeats 4000000
namespace Go.Proofs.YtoepemlnlpamlaaGreat
open Go.RowKit
theorem Ht{α:Type}{l1 l2:List α}{k:Nat}{x y:α}(h:l1.take k=l2.take k)(h1:l1[k]? =some x)(h2:l2[k]? =some y)(hxy:x=y):l1.take (k+1)=l2.take (k+1):=by
 rw[List.take_add_one,List.take_add_one,h,h1,h2,hxy]
theorem aag(A1 A2:Option Addr)(n1 n2 c1 c2:Nat)(l1 l2:List Int)(w:World)(h1:bW 1 dM w w.heap.size A1 l1)(h2:bW 1 dM w w.heap.size A2 l2)(hl1:l1.length=n1)(hl2:l2.length=n2)(hn:n1<=9223372036854775807):
 Calls Tryz.prog 16 #[.slice A1 n1 c1,.slice A2 n2 c2] w fun e w'=>e= .returned (.bool (decide (l1=l2)))/\Below w.heap.size w w':=by
 by_cases hne:n1=n2
 ·subst hne
  have H1:=kH h1;have H2:=kH h2;have rG:=kH hl1;have HL2:=kH hl2;clear h1 h2 hl1 hl2;go_enter Tryz.func16,Tryz.ntmps16
  go_wp2_with fail
  go_loopg [5] n1 (fun gk s wr=> ∃k:Nat,k+gk=n1/\s= .int .i64 k/\Below w.heap.size w wr/\l1.take k=l2.take k)
  case atStart=>exact⟨0,by omega,rfl,Below.refl _ _,rfl⟩
  case round=>
   obtain⟨k,hk,rfl,hB,ht⟩:=hrel;have hk':k<=n1:=by omega
   have HK:=kH hk;have HT:=kH ht;clear hk ht;by_cases hlt:k<n1
   ·have e1:l1[k]? =some (l1[k]'(by rw[rG.out];exact hlt)):=aaH _
    have e2:l2[k]? =some (l2[k]'(by rw[HL2.out];exact hlt)):=aaH _;generalize l1[k]'(by rw[rG.out];exact hlt)=x at e1
    generalize l2[k]'(by rw[HL2.out];exact hlt)=y at e2
    obtain⟨b1,o1,hA1,hb1,hc1⟩:=(H1.out.below hB (aaD _)) k _ e1;obtain⟨b2,o2,hA2,hb2,hc2⟩:=(H2.out.below hB (aaD _)) k _ e2;subst hA1;subst hA2;have hx:wr.cell? ⟨b1,o1+k,none⟩=some (.int .i64 x):=by simpa using hc1 0 _ rfl
    have hy:wr.cell? ⟨b2,o2+k,none⟩=some (.int .i64 y):=by simpa using hc2 0 _ rfl
    have E1:=kH e1;have E2:=kH e2;have hkn:(k:Int)<(n1:Int):=by omega
    clear hc1 hc2 e1 e2;by_cases hxy:x=y
    ·subst hxy
     go_wp2_with fail
     go_quiet (fail)
     go_wp2_with fail
     go_roundg (gk - 1)
     case measure=>have:=HK.out;omega
     case rel=>exact⟨k+1,by have:=HK.out;omega,by go_num,by(repeat (first|exact Below.refl _ _|assumption|refine Below.trans ?_ (Below.mono (by assumption) (by first|omega|(simp;done)|(simp;omega)))|refine Below.alloc ?_ (by first|omega|(simp;done)|(simp;omega)) _|refine Below.setCell ?_ (by first|omega|(simp;done)|(simp;omega)) _|refine Below.drew ?_|refine aY ?_ _)),Ht HT.out E1.out E2.out rfl⟩
    ·have hxb:(x !=y)=true:=by simpa using hxy
     have hres:decide (l1=l2)=false:=by
      refine decide_eq_false fun e=>?_
      have:=E1.out;rw[e,E2.out]at this;cases this
      exact hxy rfl
     have aM:=kH hres;clear hres hxy;go_wp2_with fail
     go_quiet (fail)
     go_wp2_with fail
     go_ret
     rw[aM.out];exact⟨rfl,by(repeat (first|exact Below.refl _ _|assumption|refine Below.trans ?_ (Below.mono (by assumption) (by first|omega|(simp;done)|(simp;omega)))|refine Below.alloc ?_ (by first|omega|(simp;done)|(simp;omega)) _|refine Below.setCell ?_ (by first|omega|(simp;done)|(simp;omega)) _|refine Below.drew ?_|refine aY ?_ _))⟩
   ·have hres:decide (l1=l2)=true:=by
     have h:=HT.out;rw[List.take_of_length_le (by rw[rG.out];omega),List.take_of_length_le (by rw[HL2.out];omega)]at h;exact decide_eq_true h
    have aM:=kH hres;clear hres;go_wp2_with fail
    go_ret
    rw[aM.out];exact⟨rfl,by(repeat (first|exact Below.refl _ _|assumption|refine Below.trans ?_ (Below.mono (by assumption) (by first|omega|(simp;done)|(simp;omega)))|refine Below.alloc ?_ (by first|omega|(simp;done)|(simp;omega)) _|refine Below.setCell ?_ (by first|omega|(simp;done)|(simp;omega)) _|refine Below.drew ?_|refine aY ?_ _))⟩
 ·have hb:(n1 !=n2)=true:=by simpa using hne
  have hres:decide (l1=l2)=false:=decide_eq_false (fun e=>hne (by rw[<- hl1,<- hl2,e]));have aM:=kH hres;have hb2:((n1:Int) !=(n2:Int))=true:=by simp;omega
  clear hres h1 h2 hl1 hl2;go_enter Tryz.func16,Tryz.ntmps16
  go_wp2_with fail
  go_ret
  rw[aM.out];exact⟨rfl,by(repeat (first|exact Below.refl _ _|assumption|refine Below.trans ?_ (Below.mono (by assumption) (by first|omega|(simp;done)|(simp;omega)))|refine Below.alloc ?_ (by first|omega|(simp;done)|(simp;omega)) _|refine Below.setCell ?_ (by first|omega|(simp;done)|(simp;omega)) _|refine Below.drew ?_|refine aY ?_ _))⟩
theorem Jl(A1 A2:Option Addr)(n1 n2 c1 c2:Nat)(l1 l2:List Int)(w:World)(h1:bW 1 dM w w.heap.size A1 l1)(h2:bW 1 dM w w.heap.size A2 l2)(hl1:l1.length=n1)(hl2:l2.length=n2)(hn:n1<=1000000):
 Calls Tryz.prog 16 #[.slice A1 n1 c1,.slice A2 n2 c2] w fun e w'=>e= .returned (.bool (decide (l1=l2)))/\Below w.heap.size w w':=
 aag A1 A2 n1 n2 c1 c2 l1 l2 w h1 h2 hl1 hl2 (by omega)
theorem Yb(A1 A2:Option Addr)(n1 n2 c1 c2:Nat)(l1 l2:List ByteArray)(w:World)(h1:bW 1 eZ w w.heap.size A1 l1)(h2:bW 1 eZ w w.heap.size A2 l2)(hl1:l1.length=n1)(hl2:l2.length=n2)(hn:n1<=1000000):
 Calls Tryz.prog 19 #[.slice A1 n1 c1,.slice A2 n2 c2] w fun e w'=>e= .returned (.bool (decide (l1=l2)))/\Below w.heap.size w w':=by
 by_cases hne:n1=n2
 ·subst hne
  have H1:=kH h1;have H2:=kH h2;have rG:=kH hl1;have HL2:=kH hl2;clear h1 h2 hl1 hl2;go_enter Tryz.func19,Tryz.ntmps19
  go_wp2_with fail
  go_loopg [5] n1 (fun gk s wr=> ∃k:Nat,k+gk=n1/\s= .int .i64 k/\Below w.heap.size w wr/\l1.take k=l2.take k)
  case atStart=>exact⟨0,by omega,rfl,Below.refl _ _,rfl⟩
  case round=>
   obtain⟨k,hk,rfl,hB,ht⟩:=hrel;have hk':k<=n1:=by omega
   have HK:=kH hk;have HT:=kH ht;clear hk ht;by_cases hlt:k<n1
   ·have e1:l1[k]? =some (l1[k]'(by rw[rG.out];exact hlt)):=aaH _
    have e2:l2[k]? =some (l2[k]'(by rw[HL2.out];exact hlt)):=aaH _;generalize l1[k]'(by rw[rG.out];exact hlt)=x at e1
    generalize l2[k]'(by rw[HL2.out];exact hlt)=y at e2
    obtain⟨b1,o1,hA1,hb1,hc1⟩:=(H1.out.below hB (aaD _)) k _ e1;obtain⟨b2,o2,hA2,hb2,hc2⟩:=(H2.out.below hB (aaD _)) k _ e2;subst hA1;subst hA2;have hx:wr.cell? ⟨b1,o1+k,none⟩=some (.string x):=by simpa using hc1 0 _ rfl
    have hy:wr.cell? ⟨b2,o2+k,none⟩=some (.string y):=by simpa using hc2 0 _ rfl
    have E1:=kH e1;have E2:=kH e2;have hkn:(k:Int)<(n1:Int):=by omega
    clear hc1 hc2 e1 e2;by_cases hxy:x=y
    ·subst hxy
     go_wp2_with fail
     go_quiet (fail)
     go_wp2_with fail
     go_roundg (gk - 1)
     case measure=>have:=HK.out;omega
     case rel=>exact⟨k+1,by have:=HK.out;omega,by go_num,by(repeat (first|exact Below.refl _ _|assumption|refine Below.trans ?_ (Below.mono (by assumption) (by first|omega|(simp;done)|(simp;omega)))|refine Below.alloc ?_ (by first|omega|(simp;done)|(simp;omega)) _|refine Below.setCell ?_ (by first|omega|(simp;done)|(simp;omega)) _|refine Below.drew ?_|refine aY ?_ _)),Ht HT.out E1.out E2.out rfl⟩
    ·have hxb:¬x.toList=y.toList:=fun h=>hxy (tQ (by rw[<- ByteArray.toList_eq,<- ByteArray.toList_eq,h]))
     have hxc:(x.toList==y.toList)=false:=by rw[beq_eq_false_iff_ne];exact hxb
     have hres:decide (l1=l2)=false:=by
      refine decide_eq_false fun e=>?_
      have:=E1.out;rw[e,E2.out]at this;cases this
      exact hxy rfl
     have aM:=kH hres;clear hres hxy;go_wp2_with fail
     go_quiet (fail)
     go_wp2_with fail
     go_ret
     rw[aM.out];exact⟨rfl,by(repeat (first|exact Below.refl _ _|assumption|refine Below.trans ?_ (Below.mono (by assumption) (by first|omega|(simp;done)|(simp;omega)))|refine Below.alloc ?_ (by first|omega|(simp;done)|(simp;omega)) _|refine Below.setCell ?_ (by first|omega|(simp;done)|(simp;omega)) _|refine Below.drew ?_|refine aY ?_ _))⟩
   ·have hres:decide (l1=l2)=true:=by
     have h:=HT.out;rw[List.take_of_length_le (by rw[rG.out];omega),List.take_of_length_le (by rw[HL2.out];omega)]at h;exact decide_eq_true h
    have aM:=kH hres;clear hres;go_wp2_with fail
    go_ret
    rw[aM.out];exact⟨rfl,by(repeat (first|exact Below.refl _ _|assumption|refine Below.trans ?_ (Below.mono (by assumption) (by first|omega|(simp;done)|(simp;omega)))|refine Below.alloc ?_ (by first|omega|(simp;done)|(simp;omega)) _|refine Below.setCell ?_ (by first|omega|(simp;done)|(simp;omega)) _|refine Below.drew ?_|refine aY ?_ _))⟩
 ·have hb:(n1 !=n2)=true:=by simpa using hne
  have hres:decide (l1=l2)=false:=decide_eq_false (fun e=>hne (by rw[<- hl1,<- hl2,e]));have aM:=kH hres;have hb2:((n1:Int) !=(n2:Int))=true:=by simp;omega
  clear hres h1 h2 hl1 hl2;go_enter Tryz.func19,Tryz.ntmps19
  go_wp2_with fail
  go_ret
  rw[aM.out];exact⟨rfl,by(repeat (first|exact Below.refl _ _|assumption|refine Below.trans ?_ (Below.mono (by assumption) (by first|omega|(simp;done)|(simp;omega)))|refine Below.alloc ?_ (by first|omega|(simp;done)|(simp;omega)) _|refine Below.setCell ?_ (by first|omega|(simp;done)|(simp;omega)) _|refine Below.drew ?_|refine aY ?_ _))⟩
end Go.Proofs.YtoepemlnlpamlaaGreat
namespace Go.Proofs.YtoepemlnlpamlaaGreat
def JD:aP:=[112,114,111,99,32,102,40,120,41,123,118,97,114,32,121,61,120,59,103,40,121,41,59,125,112,114,111,99,32,103,40,122,41,123,125]
def FQ:aP:=[105,102,32,97,32,123,32,118,97,114,32,98,32,61,32,99,59,32,100,32,61,32,98,59,32,125]
def LY(x:Int):List Int->List Int
 | []=>[x]
 | y::l=>if x<=y then x::y::l else y::LY x l
def lX:List Int->List Int
 | []=>[]
 | x::l=>LY x (lX l)
theorem EI(x:Int):∀l:List Int,(LY x l).Perm (x::l)
 | []=>List.Perm.refl _
 | y::l=>by
  rw[LY];split
  ·exact List.Perm.refl _
  ·exact((EI x l).cons y).trans (List.Perm.swap x y l)
theorem GK(x:Int):∀l:List Int,l.Pairwise (· <= ·)->(LY x l).Pairwise (· <= ·)
 | [],_=>List.pairwise_singleton _ _
 | y::l,h=>by
  rw[List.pairwise_cons]at h;rw[LY];split
  ·rename_i hxy
   rw[List.pairwise_cons];refine⟨fun z hz=>?_,List.pairwise_cons.2 h⟩;rcases List.mem_cons.1 hz with rfl|hz
   ·exact hxy
   ·exact Int.le_trans hxy (h.1 z hz)
  ·rename_i hxy
   rw[List.pairwise_cons];refine⟨fun z hz=>?_,GK x l h.2⟩;rcases List.mem_cons.1 ((EI x l).mem_iff.1 hz) with rfl|hz
   ·omega
   ·exact h.1 z hz
theorem JG:∀l:List Int,(lX l).Perm l
 | []=>List.Perm.refl _
 | x::l=>(EI x _).trans ((JG l).cons x)
theorem Er:∀l:List Int,(lX l).Pairwise (· <= ·)
 | []=>List.Pairwise.nil
 | x::l=>GK x _ (Er l)
theorem YQ(l:List Int):lX l=aj l:=by
 rw[<- ME (JG l)];refine(List.mergeSort_of_pairwise ?_).symm;exact(Er l).imp fun h=>by simpa using h
mutual
def Ei(G:aW)(inside:Bool):aa->aK->RS->RS×aK
 | .node k x a e kids,s,r0=>
  let t:aa:=.node k x a e kids
  let n:=r0.next
  let r:RS:={ r0 with next:=n+1,bQ:=if inside then cO r0.bQ (n:Int) (lX (ak s)) else r0.bQ }
  let tq:=(aN G.globals x).getD 0
  if k=3 then dQ G inside kids 0 kids.length s { aQ r 0 n t (decide (tq≠n)) with owner:=n }
  else if k=4 then dQ G inside kids 0 kids.length s (aQ r 1 n t (decide ((aN G.fields x).getD 0≠n)))
  else if k=5 then
   let r1:RS:={ aQ r 2 n t (decide (tq≠n)) with owner:=n }
   let q:=dQ G false kids 0 2 [[]] r1
   ((dQ G true kids 2 1 ([]::q.2) q.1).1,s)
  else if k=7\/k=8 then
   let q:=aA G r 3 n t s
   dQ G inside kids 0 kids.length q.2 q.1
  else if k=11 then
   let q:=dQ G inside kids 0 kids.length ([]::s) r
   (q.1,q.2.tail)
  else if k=12 then
   let q:=aA G r 4 n t ([]::s)
   let q2:=dQ G inside kids 0 2 s q.1
   (q2.1,fP q2.2 (q.2.headD []))
  else if k=16 then
   let q:=aA G r 5 n t ([]::s)
   let q2:=dQ G inside kids 0 2 s q.1
   let q3:=dQ G inside kids 2 1 (q.2.headD []::q2.2) q2.1
   (q3.1,q3.2.tail)
  else
   let r1:=if k=20 then fC r n t (bV s x)
    else if k=22 then fC r n t (aN G.fields x)
    else if k=27 then fC r n t (aN G.globals x)
    else if k=19 then fC r n t ((aN G.globals x).filter fun j=>decide (jP G j=5))
    else if k=9/\dC x=false then fC r n t ((aN G.globals x).filter fun j=>decide (jP G j=3))
    else r
   dQ G inside kids 0 kids.length s r1
def dQ(G:aW)(inside:Bool):List aa->Nat->Nat->aK->RS->RS×aK
 | [],_,_,s,r=>(r,s)
 | _::ts,from_+1,n,s,r=>dQ G inside ts from_ n s r
 | _::_,0,0,s,r=>(r,s)
 | t::ts,0,n+1,s,r=>
  let q:=Ei G inside t s r
  dQ G inside ts 0 n q.2 q.1
end
theorem TU(G:aW)(i:Bool)(k:Int)(x:ByteArray)(a e:Int)(kids:List aa)(s:aK)(r:RS):Ei G i (.node k x a e kids) s r=
 if k=3 then dQ G i kids 0 kids.length s { aQ (aC r i (lX (ak s))) 0 r.next (.node k x a e kids) (decide ((aN G.globals x).getD 0≠(r.next:Int))) with owner:=(r.next:Int) }
 else if k=4 then dQ G i kids 0 kids.length s (aQ (aC r i (lX (ak s))) 1 r.next (.node k x a e kids) (decide ((aN G.fields x).getD 0≠(r.next:Int))))
 else if k=5 then((dQ G true kids 2 1 ([]::(dQ G false kids 0 2 [[]] { aQ (aC r i (lX (ak s))) 2 r.next (.node k x a e kids) (decide ((aN G.globals x).getD 0≠(r.next:Int))) with owner:=(r.next:Int) }).2) (dQ G false kids 0 2 [[]] { aQ (aC r i (lX (ak s))) 2 r.next (.node k x a e kids) (decide ((aN G.globals x).getD 0≠(r.next:Int))) with owner:=(r.next:Int) }).1).1,s)
 else if k=7\/k=8 then dQ G i kids 0 kids.length (aA G (aC r i (lX (ak s))) 3 r.next (.node k x a e kids) s).2 (aA G (aC r i (lX (ak s))) 3 r.next (.node k x a e kids) s).1
 else if k=11 then((dQ G i kids 0 kids.length ([]::s) (aC r i (lX (ak s)))).1,(dQ G i kids 0 kids.length ([]::s) (aC r i (lX (ak s)))).2.tail)
 else if k=12 then((dQ G i kids 0 2 s (aA G (aC r i (lX (ak s))) 4 r.next (.node k x a e kids) ([]::s)).1).1,fP (dQ G i kids 0 2 s (aA G (aC r i (lX (ak s))) 4 r.next (.node k x a e kids) ([]::s)).1).2 ((aA G (aC r i (lX (ak s))) 4 r.next (.node k x a e kids) ([]::s)).2.headD []))
 else if k=16 then((dQ G i kids 2 1 ((aA G (aC r i (lX (ak s))) 5 r.next (.node k x a e kids) ([]::s)).2.headD []::(dQ G i kids 0 2 s (aA G (aC r i (lX (ak s))) 5 r.next (.node k x a e kids) ([]::s)).1).2) (dQ G i kids 0 2 s (aA G (aC r i (lX (ak s))) 5 r.next (.node k x a e kids) ([]::s)).1).1).1,
  (dQ G i kids 2 1 ((aA G (aC r i (lX (ak s))) 5 r.next (.node k x a e kids) ([]::s)).2.headD []::(dQ G i kids 0 2 s (aA G (aC r i (lX (ak s))) 5 r.next (.node k x a e kids) ([]::s)).1).2) (dQ G i kids 0 2 s (aA G (aC r i (lX (ak s))) 5 r.next (.node k x a e kids) ([]::s)).1).1).2.tail)
 else dQ G i kids 0 kids.length s (gH G s r (aC r i (lX (ak s))) (.node k x a e kids)):=by
 rw[Ei];rfl
mutual
theorem Ms(G:aW):∀(t:aa) (i:Bool) (s:aK) (r:RS),Ei G i t s r=aF G i t s r
 | .node k x a e kids,i,s,r=>by
  have ih:∀i f n s r,dQ G i kids f n s r=ae G i kids f n s r:=fun i f n s r=>Ct G kids i f n s r
  rw[bY,TU];simp only[ih,YQ]
theorem Ct(G:aW):∀(ts:List aa) (i:Bool) (f n:Nat) (s:aK) (r:RS),dQ G i ts f n s r=ae G i ts f n s r
 | [],i,f,n,s,r=>by rw[dQ,ae]
 | t::ts,i,f+1,n,s,r=>by rw[dQ,ae];exact Ct G ts i f n s r
 | t::ts,i,0,0,s,r=>by rw[dQ,ae]
 | t::ts,i,0,n+1,s,r=>by
  rw[dQ,ae];rw[Ms G t i s r];exact Ct G ts i 0 n _ _
end
def H6(t:aa):RS:=
 let r:=(Ei (eP t) false t [] ⟨[],List.replicate (ah t) (-1),[],[],0,0⟩).1
 { r with uses:=r.uses.map (mK r.ds),bQ:=r.bQ.map fun x=>(x.1,x.2.map (mK r.ds)) }
theorem RA(t:aa):H6 t=aR t:=by
 unfold H6 aR;rw[Ms]
def Ph(r:RS)(k:Nat)(x:aa):Bool:=
 (!(decide (x.kind=20)&&(x.text.data.toList==[120])) || (decide (r.uses[k]? =some 1)&&decide ((bJ r.bQ (k:Int)).getD []=[1])))&&(!decide (x.kind=19) || decide ((bJ r.bQ (k:Int)).getD []=[1,2]))
def FZ(r:RS):List aa->Nat->Bool
 | [],_=>true
 | x::l,k=>Ph r k x&&FZ r l (k+1)
def QR(t:aa)(ds:List Dg):Bool:=
 let r:=H6 t
 decide (ds.length=0)&&iJ t&&decide (r.aO.length=0)&&decide (r.ds.length=5)&&decide ((r.ds[2]?.map (·.name.data.toList))=some [121])&&decide ((r.ds[4]?.map (·.kind))=some 3)&&decide (r.uses.length=ah t)&&decide (ah t<=100)&&FZ r (dV t) 0
def KQ(t:aa):Bool:=decide ((ny t [] []).map (·.data.toList)=[[97],[99],[100]])&&decide (ah t<=100)
theorem parse1:((lL 40 JD).map fun x=>QR x.1 x.2)=some true:=by kernel_rfl
def XZ:Option (List aa×PS)->Bool
 | some ([x],p)=>KQ x&&decide (bG (iK FQ) p=5)
 | _=>false
theorem parse2:XZ (aJ FQ (iK FQ) 30 .stmt ⟨0,0,[]⟩)=true:=by kernel_rfl
theorem parse2':∃x p,aJ FQ (iK FQ) 30 .stmt ⟨0,0,[]⟩=some ([x],p)/\KQ x=true/\bG (iK FQ) p=5:=by
 have h:=parse2;unfold XZ at h;split at h
 ·rename_i x p e
  rw[aaF,decide_eq_true_eq]at h;exact⟨x,p,e,h.1,h.2⟩
 ·cases h
theorem Gy(f:Nat)(s:aP)(y:aa×List Dg)(h:lL f s=some y):lL (f+1) s=some y:=by
 unfold lL at h⊢
 cases hp:jw s (iK s) f ⟨0,0,[]⟩ [] with
 | none=>rw[hp]at h;cases h
 | some q=>
  rw[y5 f _ _ q hp];rw[hp]at h;exact h
theorem parse1'{f:Nat}{t:aa}{ds:List Dg}(h:lL f JD=some (t,ds)):QR t ds=true:=by
 have h1:=parse1
 cases hp:lL 40 JD with
 | none=>rw[hp]at h1;cases h1
 | some y=>
  have e1:=jO (F:=fun f=>lL f JD) (fun f y h=>Gy f _ y h) (Nat.le_max_left f 40) h;have e2:=jO (F:=fun f=>lL f JD) (fun f y h=>Gy f _ y h) (Nat.le_max_right f 40) hp;rw[e1]at e2;rw[hp]at h1;cases e2
  simpa using h1
theorem J5{r:RS}:∀{l:List aa}{k:Nat},FZ r l k=true->∀{j:Nat}{x:aa},l[j]? =some x->Ph r (k+j) x=true
 | [],_,_,j,x,h=>by cases h
 | y::l,k,hk,j,x,h=>by
  rw[FZ,aaF]at hk
  cases j with
  | zero=>
   simp only[aaK,aaI]at h;rw[<- h];exact hk.1
  | succ j=>
   rw[aaL]at h;have:=J5 hk.2 h;rw[show k+1+j=k+(j+1) by omega]at this;exact this
open Go.RowKit
theorem zw.at_{w0:World}{t:aa}{ds:List Dg}{e:Ending}{w':World}(h:zw w0 t ds e w'):∃A c DA dc,e= .returned (.tuple #[aX t A c,.slice DA ds.length dc,.int .i64 0])/\t.kids.length<=c/\aD w' w'.heap.size A 0 t.kids/\aL w' w0.heap.size 78 5 (.slice DA ds.length dc) ds.length (ds.flatMap bR)/\Below w0.heap.size w0 w':=by
 obtain⟨k,x,a,z,A,n,c,DA,dn,dc,he,hT,hd,ho,hb⟩:=h;have hat:=aB.at_ t _ hT;have hcap:=hat.cap;obtain⟨A',c',h1,h2⟩:=hat.five;simp only[List.cons.injEq,Value.int.injEq,Value.string.injEq,Value.slice.injEq,true_and,and_true]at h1;obtain⟨rfl,rfl,rfl,rfl,rfl,rfl,rfl⟩:=h1;subst hd;exact⟨A,c,DA,dc,he,hcap,h2,ho,hb⟩
theorem gB.get{w:World}{B:Nat}:∀{ts:List aa}{vs:List (List Value)},gB w B ts vs->∀{j:Nat}{x:aa},ts[j]? =some x->∃cs,lQ w B x cs/\∀q u,cs[q]? =some u->(List.flatten vs)[j*5+q]? =some u
 | [],_,_,j,x,h=>by cases h
 | t::ts,vs0,h0,j,x,h=>by
  obtain⟨v,vs,rfl,h3,h4⟩:=h0;obtain⟨A,c,hv,-⟩:=h3.five;have hl:v.length=5:=by rw[hv];rfl
  cases j with
  | zero=>
   simp only[aaK,aaI]at h;subst h;refine⟨v,h3,fun q u hq=>?_⟩;have hlt:=(aaJ.1 hq).1;rw[List.flatten_cons,Nat.zero_mul,Nat.zero_add,List.getElem?_append_left hlt];exact hq
  | succ j=>
   rw[aaL]at h;obtain⟨cs,h5,h6⟩:=gB.get h4 h;refine⟨cs,h5,fun q u hq=>?_⟩;rw[List.flatten_cons,aaN (by omega),hl,show(j+1)*5+q - 5=j*5+q by omega];exact h6 q u hq
theorem YX{w:World}{b:Nat}(z:Int)(h:w.cell? ⟨b,0,none⟩=some (.int .i64 z))(hb:b<w.heap.size):bW 1 dM w w.heap.size (some ⟨b,0,none⟩) [z]:=by
 intro k c hk
 match k,hk with
 | 0,hk=>
  cases hk
  refine⟨b,0,rfl,hb,fun j v hj=>?_⟩
  match j,hj with
  | 0,hj=>cases hj;exact h
  | j+1,hj=>simp[dM]at hj
 | k+1,hk=>simp at hk
theorem YW{w:World}{b:Nat}(y z:Int)(h0:w.cell? ⟨b,0,none⟩=some (.int .i64 y))(h1:w.cell? ⟨b,1,none⟩=some (.int .i64 z))(hb:b<w.heap.size):bW 1 dM w w.heap.size (some ⟨b,0,none⟩) [y,z]:=by
 intro k c hk
 match k,hk with
 | 0,hk=>
  cases hk
  refine⟨b,0,rfl,hb,fun j v hj=>?_⟩
  match j,hj with
  | 0,hj=>cases hj;exact h0
  | j+1,hj=>simp[dM]at hj
 | 1,hk=>
  cases hk
  refine⟨b,0,rfl,hb,fun j v hj=>?_⟩
  match j,hj with
  | 0,hj=>cases hj;exact h1
  | j+1,hj=>simp[dM]at hj
 | k+2,hk=>simp at hk
theorem Uj{w:World}{b:Nat}(x y z:ByteArray)(h0:w.cell? ⟨b,0,none⟩=some (.string x))(h1:w.cell? ⟨b,1,none⟩=some (.string y))(h2:w.cell? ⟨b,2,none⟩=some (.string z))(hb:b<w.heap.size):bW 1 eZ w w.heap.size (some ⟨b,0,none⟩) [x,y,z]:=by
 intro k c hk
 match k,hk with
 | 0,hk=>
  cases hk
  refine⟨b,0,rfl,hb,fun j v hj=>?_⟩
  match j,hj with
  | 0,hj=>cases hj;exact h0
  | j+1,hj=>simp[eZ]at hj
 | 1,hk=>
  cases hk
  refine⟨b,0,rfl,hb,fun j v hj=>?_⟩
  match j,hj with
  | 0,hj=>cases hj;exact h1
  | j+1,hj=>simp[eZ]at hj
 | 2,hk=>
  cases hk
  refine⟨b,0,rfl,hb,fun j v hj=>?_⟩
  match j,hj with
  | 0,hj=>cases hj;exact h2
  | j+1,hj=>simp[eZ]at hj
 | k+3,hk=>simp at hk
theorem qH(l:List Int):iE l=l.flatMap dM:=by
 induction l with
 | nil=>rfl
 | cons a l ih=>rw[List.flatMap_cons,<- ih];rfl
theorem R6{t:aa}(h:KQ t=true):ny t [] []=[⟨#[97]⟩,⟨#[99]⟩,⟨#[100]⟩]/\ah t<=100:=by
 unfold KQ at h;rw[aaF,decide_eq_true_eq,decide_eq_true_eq]at h;refine⟨?_,h.2⟩;have h1:=h.1;generalize ny t [] []=l at h1⊢
 match l,h1 with
 | [x,y,z],h1=>
  simp only[List.map_cons,List.map_nil,List.cons.injEq,and_true]at h1;rw[tQ (a:=x) (b:=⟨#[97]⟩) (by rw[h1.1]),tQ (a:=y) (b:=⟨#[99]⟩) (by rw[h1.2.1]),tQ (a:=z) (b:=⟨#[100]⟩) (by rw[h1.2.2])]
 | [],h1=>cases h1
 | [x],h1=>simp at h1
 | [x,y],h1=>simp at h1
 | x::y::z::u::l,h1=>simp at h1
theorem X9(w:World):Calls Tryz.prog 11 #[] w fun e w'=>e= .returned (.bool true)/\Below w.heap.size w w':=by
 have hp1:=fun w=>ML ⟨#[112,114,111,99,32,102,40,120,41,123,118,97,114,32,121,61,120,59,103,40,121,41,59,125,112,114,111,99,32,103,40,122,41,123,125]⟩ w (by decide)
 obtain⟨t2,p2,hs1,hs2,hs3⟩:=parse2';have hp2:=fun w=>NK ⟨#[105,102,32,97,32,123,32,118,97,114,32,98,32,61,32,99,59,32,100,32,61,32,98,59,32,125]⟩ w (by decide) 30 t2 p2 hs1 hs3
 have Ai:=kH hp1;have yC:=kH hp2;have HS2:=kH hs2;clear hp1 hp2 hs1 hs2 hs3;go_enter Tryz.func11,Tryz.ntmps11
 go_wp2_with fail
 refine(Ai.out _).mono ?_;rintro e1 w1 ⟨f,t,ds,hpm,htd⟩;have hck:=parse1' hpm;obtain⟨A,c,DA,dc,rfl,hcap,hk,hod,hb1⟩:=htd.at_;unfold QR at hck;simp only[aaF,decide_eq_true_eq,RA]at hck;obtain⟨⟨⟨⟨⟨⟨⟨⟨hd0,hval⟩,hpr⟩,hds⟩,hdn⟩,hdk⟩,AO⟩,hcn⟩,hnok⟩:=hck;rw[hd0];obtain⟨k0,x0,a0,z0,n0,-,-,-,-,hn0,mP⟩:=gM t A c;rw[mP];have hres:=fun W (hb:Below w1.heap.size w1 W)=>G8 t A c W (by omega) hcap (aD.mono hb.size _ _ _ (aD.below hb (aaD _) _ _ _ hk))
 rw[mP]at hres;have aM:=kH hres;have HB1:=kH hb1;have HCAP:=kH hcap;have HK:=kH hk;have Mg:=kH hval;have qE:=kH hpr;have HDS:=kH hds;have Ls:=kH hdn;have HDK:=kH hdk;have Tw:=kH AO;have Rm:=kH hcn;have HNOK:=kH hnok;have D9:=kH mP;clear hpm htd hod hd0 hval hpr hds hdn hdk AO hcn hnok mP hres hb1 hcap hk hn0;go_wp2_with fail
 obtain⟨nb,hnb⟩:∃q,w1.heap.size=q:=⟨_,rfl⟩
 obtain⟨W1,hW1⟩:∃W1,w1.alloc (.cells #[.int .i64 k0,.string x0,.int .i64 a0,.int .i64 z0,.slice A n0 c] 24)=W1:=⟨_,rfl⟩
 rw[hW1];have hbW:Below w1.heap.size w1 W1:=by rw[<- hW1];exact af _ _
 have zV:ai W1 w1.heap.size 24 #[.int .i64 k0,.string x0,.int .i64 a0,.int .i64 z0,.slice A n0 c]:=by rw[<- hW1];exact ai.new _ _ _
 have hcall:=aM.out W1 hbW;have HC:=kH hcall;have FC:=kH zV;have tY:=kH hbW;rw[hnb]at FC;clear hcall zV hbW hW1;refine HC.out.mono ?_;rintro e2 w2 h2;rcases h2 with⟨hf,-⟩| ⟨-,E,V,Aw,nw,cw,rfl,DT,hR,hnw,how,hb2⟩
 ·rw[Mg.out]at hf
  cases hf
 rw[qE.out]at hnw;subst hnw;rw[HDS.out,Tw.out];obtain⟨N,hN⟩:∃q,ah t=q:=⟨_,rfl⟩
 rw[hN]
 obtain⟨d2,hd2,Zx⟩:∃d,(aR t).ds[2]? =some d/\d.name.data.toList=[121]:=by
  have:=Ls.out
  cases h:(aR t).ds[2]? with
  | none=>rw[h]at this;cases this
  | some d=>rw[h]at this;exact⟨d,rfl,by simpa using this⟩
 obtain⟨d4,hd4,hd4k⟩:∃d,(aR t).ds[4]? =some d/\d.kind=3:=by
  have:=HDK.out
  cases h:(aR t).ds[4]? with
  | none=>rw[h]at this;cases this
  | some d=>rw[h]at this;exact⟨d,rfl,by simpa using this⟩
 have hrow:=hR.ds.rowAt (cells:=kz) (l:=(aR t).ds) rfl rfl (fun _ _=>rfl) rfl;obtain⟨db,nI,Kq,hdl,M7⟩:=hrow 2 d2 hd2;obtain⟨db',doff',Zw,-,hdc'⟩:=hrow 4 d4 hd4;rw[Kq]at Zw;simp only[aaI,Addr.mk.injEq,and_true]at Zw;obtain⟨rfl,rfl⟩:=Zw;rw[Kq];have hc2:=M7 1 _ rfl;have hc4:=hdc' 0 _ rfl;rw[hd4k]at hc4;obtain⟨yn,hyn⟩:∃q,d2.name=q:=⟨_,rfl⟩
 rw[hyn]at hc2 Zx;have hyt:yn.toList=[121]:=by rw[ByteArray.toList_eq];exact Zx
 obtain⟨uA,huA⟩:∃q,E.uA=q:=⟨_,rfl⟩
 obtain⟨uc,huc⟩:∃q,E.uc=q:=⟨_,rfl⟩
 obtain⟨AX,hdc2⟩:∃q,V.dc=q:=⟨_,rfl⟩
 rw[huA,huc,hdc2];have yP:=hR.us;rw[Tw.out,hN,huA,huc]at yP;have xg:=kH yP;have Lg:=kH hN;have wW:Hid (w2.cell? ⟨db,nI+9,none⟩=some (.string yn)/\w2.cell? ⟨db,nI+16,none⟩=some (.int .i64 3)/\db<w2.heap.size):=kH ⟨by simpa using hc2,by simpa using hc4,hdl⟩;have VY:=kH (FC.out.below hb2 FC.out.lt);have HB2:Hid (Below w1.heap.size w1 w2):=kH (tY.out.trans (hb2.mono tY.out.size));have hNm:N<=100:=by rw[<- hN];exact Rm.out
 clear DT hR how hb2 hd2 Zx hd4 hd4k hrow Kq M7 hdc' hdl hc2 hc4 hyn huA huc hdc2 yP hN HC;go_wp2_with fail
 obtain⟨rb,hrb⟩:∃q,w2.heap.size=q:=⟨_,rfl⟩
 obtain⟨W2,hW2⟩:∃W2,w2.alloc (.cells #[.slice (some ⟨db,nI,none⟩) 5 AX,.slice uA N uc] 30)=W2:=⟨_,rfl⟩
 rw[hW2];have hbW:Below w2.heap.size w2 W2:=by rw[<- hW2];exact af _ _
 have hRW:ai W2 w2.heap.size 30 #[.slice (some ⟨db,nI,none⟩) 5 AX,.slice uA N uc]:=by rw[<- hW2];exact ai.new _ _ _
 rw[hrb]at hRW;have HRW:=kH hRW;have BH:=kH hbW;clear hbW hRW hW2;refine(yC.out W2).mono ?_;rintro e3 w3 htd;obtain⟨A2,c2,DA2,dc3,rfl,hcap2,hk2,hod2,hb3⟩:=htd.at_;obtain⟨m0,y0,b0,f0,q0,-,-,-,-,-,Zk⟩:=gM t2 A2 c2;rw[Zk];obtain⟨nd2,hnd2⟩:∃q,(gN (ic (ByteArray.mk #[105,102,32,97,32,123,32,118,97,114,32,98,32,61,32,99,59,32,100,32,61,32,98,59,32,125]).data.toList) p2.ds).length=q:=⟨_,rfl⟩
 rw[hnd2];have HNV2:=kH Zk;have Ap:=kH hk2;have Hl:Hid (Below w1.heap.size w1 w3):=kH ((HB2.out.trans (BH.out.mono HB2.out.size)).trans (hb3.mono (aaE HB2.out.size BH.out.size)));have We:Hid (Below w2.heap.size w2 w3):=kH (BH.out.trans (hb3.mono BH.out.size));have HR3:=kH (HRW.out.below hb3 HRW.out.lt);clear htd hod2 hb3 hcap2 hk2 Zk hnd2;go_wp2_with fail
 obtain⟨sb,hsb⟩:∃q,w3.heap.size=q:=⟨_,rfl⟩
 obtain⟨W3,hW3⟩:∃W3,w3.alloc (.cells #[.int .i64 m0,.string y0,.int .i64 b0,.int .i64 f0,.slice A2 q0 c2] 24)=W3:=⟨_,rfl⟩
 rw[hW3];have hbW:Below w3.heap.size w3 W3:=by rw[<- hW3];exact af _ _
 have hSW:ai W3 w3.heap.size 24 #[.int .i64 m0,.string y0,.int .i64 b0,.int .i64 f0,.slice A2 q0 c2]:=by rw[<- hW3];exact ai.new _ _ _
 rw[hsb]at hSW;have HSW:=kH hSW;have V7:=kH hbW;have N7:Hid (Below w2.heap.size w2 W3):=kH (We.out.trans (hbW.mono We.out.size));have VX:=kH ((VY.out.below We.out VY.out.lt).below hbW (VY.out.below We.out VY.out.lt).lt);have VT:=kH (HR3.out.below hbW HR3.out.lt);have jc:Hid (Below w1.heap.size w1 W3):=kH (Hl.out.trans (hbW.mono Hl.out.size))
 have nH:∀w':World,Below W3.heap.size W3 w'->(Below W3.heap.size W3 w'/\w'.cell? ⟨rb,0,none⟩=some (.slice (some ⟨db,nI,none⟩) 5 AX)/\w'.cell? ⟨rb,1,none⟩=some (.slice uA N uc)/\w'.cell? ⟨db,nI+9,none⟩=some (.string yn)/\w'.cell? ⟨db,nI+16,none⟩=some (.int .i64 3)/\w'.cell? ⟨nb,0,none⟩=some (.int .i64 k0)/\w'.cell? ⟨nb,1,none⟩=some (.string x0)/\w'.cell? ⟨nb,2,none⟩=some (.int .i64 a0)/\w'.cell? ⟨nb,3,none⟩=some (.int .i64 z0)/\w'.cell? ⟨nb,4,none⟩=some (.slice A n0 c)):=fun w' hb=>by
  have b1:=VX.out.below hb VX.out.lt;have b2:=VT.out.below hb VT.out.lt;have hbz:Below w2.heap.size w2 w':=N7.out.trans (hb.mono N7.out.size);exact⟨hb,b2.cell 0,b2.cell 1,(hbz.cell (p:=⟨db,nI+9,none⟩) wW.out.2.2).trans wW.out.1,(hbz.cell (p:=⟨db,nI+16,none⟩) wW.out.2.2).trans wW.out.2.1,b1.cell 0,b1.cell 1,b1.cell 2,b1.cell 3,b1.cell 4⟩
 have eY:=kH nH;have hcnt:=fun W (hb:Below W3.heap.size W3 W)=>VI (ah t) t A c W (aaD _) (by have:=Rm.out;omega) (aD.mono (aaE jc.out.size hb.size) _ _ _ (aD.below (jc.out.trans (hb.mono jc.out.size)) (aaD _) _ _ _ HK.out))
 rw[D9.out,Lg.out]at hcnt;have HCNT:=kH hcnt;clear hbW hSW nH hcnt hW3;refine iI (fun w'=>Below W3.heap.size W3 w'/\w'.cell? ⟨rb,0,none⟩=some (.slice (some ⟨db,nI,none⟩) 5 AX)/\w'.cell? ⟨rb,1,none⟩=some (.slice uA N uc)/\w'.cell? ⟨db,nI+9,none⟩=some (.string yn)/\w'.cell? ⟨db,nI+16,none⟩=some (.int .i64 3)/\w'.cell? ⟨nb,0,none⟩=some (.int .i64 k0)/\w'.cell? ⟨nb,1,none⟩=some (.string x0)/\w'.cell? ⟨nb,2,none⟩=some (.int .i64 a0)/\w'.cell? ⟨nb,3,none⟩=some (.int .i64 z0)/\w'.cell? ⟨nb,4,none⟩=some (.slice A n0 c)) [] [true,true,true,true,true,true,true,true,true,true,true,true,true,true,true,true,true,true,true,true,true,true,true,true,true,true,true,true,true,true,true,true,true,true,false,true,true] (by kernel_rfl) (by kernel_rfl) rfl (by kernel_rfl) ?_;have hS0:=eY.out W3.drew ((Below.refl _ _).drew);iterate 34((first|(refine jJ (by rfl) hS0 ?_)|(refine iX (by rfl) hS0 (by intro w' hSw;obtain⟨-,hs1,hs2,hs3,hs4,hs5,hs6,hs7,iZ,uy⟩:=hSw;go_simp;rfl) ?_));simp only[Act.put,sA,sZ,sC])
 refine qg (by rfl) (by go_simp) ((HCNT.out _ hS0.1).mono ?_);rintro e5 w5 ⟨rfl,hb5⟩;have hS1:=eY.out w5 (hS0.1.trans (hb5.mono hS0.1.size));refine⟨_,rfl,fun _=>hS1,?_⟩;iterate 2(simp only[Act.put,sA,sZ,sC];(first|(refine jJ (by rfl) hS1 ?_)|(refine iX (by rfl) hS1 (by intro w' hSw;obtain⟨-,hs1,hs2,hs3,hs4,hs5,hs6,hs7,iZ,uy⟩:=hSw;go_simp;rfl) ?_)))
 simp only[Act.put,sA,sZ,sC];refine mQ ?_;have iQ:Hid (Below w1.heap.size w1 w5):=kH (jc.out.trans (hS1.1.mono jc.out.size));have HB52:Hid (Below w2.heap.size w2 w5):=kH (N7.out.trans (hS1.1.mono N7.out.size));have HB53:Hid (Below w3.heap.size w3 w5):=kH (V7.out.trans (hS1.1.mono V7.out.size));have FB:=kH (VX.out.below hS1.1 VX.out.lt);have HRW5:=kH (VT.out.below hS1.1 VT.out.lt);have HSW5:=kH (HSW.out.below hS1.1 HSW.out.lt);have u0:=FB.out.cell 0;have u1:=FB.out.cell 1;have u2:=FB.out.cell 2;have u3:=FB.out.cell 3;have u4:=FB.out.cell 4;have lu:=FB.out.lt;have Zm:=UZ (ah t) t A c w5 w5.heap.size (aaD _) (aaD _) (by have:=Rm.out;omega) HCAP.out (aD.mono iQ.out.size _ _ _ (aD.below iQ.out (aaD _) _ _ _ HK.out));rw[D9.out]at Zm;have HNOD:=kH Zm;clear hS0 hS1 hb5 Zm;go_wp2_with fail
 clear u0 u1 u2 u3 u4 lu;refine HNOD.out.mono ?_;rintro e6 w6 ⟨v6,n6,vals,rfl,DI,SN,hva,hb6⟩;obtain⟨A6,c6,hv6,-,-⟩:=SN.shape;subst hv6;have hn6N:n6=N:=by rw[DI,qo,Lg.out]
 subst hn6N;have Nw:=kH SN;have HVA:=kH hva;have p8:Hid (Below w1.heap.size w1 w6):=kH (iQ.out.trans (hb6.mono iQ.out.size));have HB62:Hid (Below w2.heap.size w2 w6):=kH (HB52.out.trans (hb6.mono HB52.out.size));have HB63:Hid (Below w3.heap.size w3 w6):=kH (HB53.out.trans (hb6.mono HB53.out.size));have HNW6:=kH (FB.out.below hb6 FB.out.lt);have HRW6:=kH (HRW5.out.below hb6 HRW5.out.lt);have HSW6:=kH (HSW5.out.below hb6 HSW5.out.lt);have HN6:=kH DI;clear SN hva hb6 DI HNOD;go_wp2_with fail
 go_loopg [68] n6 (fun gk s68 wr=> ∃k:Nat,s68= .int .i64 (k:Int)/\k+gk=n6/\Hid (Below w6.heap.size w6 wr))
 case atStart=>exact⟨0,rfl,by omega,kH (Below.refl _ _)⟩
 case round=>
  obtain⟨k,rfl,hk6,HB⟩:=hrel;have Mj:=kH (HNW6.out.below HB.out HNW6.out.lt);have HRWr:=kH (HRW6.out.below HB.out HRW6.out.lt);have Mh:=kH (HSW6.out.below HB.out HSW6.out.lt);by_cases hlt:k<n6
  ·have hlt':(k:Int)<(n6:Int):=by omega
   have hw:IntKind.i64.wrap ((k:Int)+1)=(k:Int)+1:=IntWalk.i64_in _ (by omega);obtain⟨x,hx⟩:∃x,(dV t)[k]? =some x:=⟨_,aaH (by rw[<- HN6.out];exact hlt)⟩
   obtain⟨cs,hT,hfl⟩:=gB.get HVA.out hx;obtain⟨A',c',hcs,-⟩:=hT.five;subst hcs;obtain⟨bk,off,cap,hv,-,-,-,hbk,hcell⟩:=(Nw.out.below HB.out (fun g hg=>(Nw.out.lt g hg).2)).form (by omega);simp only[Value.slice.injEq,true_and]at hv;obtain⟨rfl,rfl⟩:=hv;obtain⟨xk,hxk⟩:∃q,x.kind=q:=⟨_,rfl⟩
   obtain⟨xt,hxt⟩:∃q,x.text=q:=⟨_,rfl⟩
   obtain⟨xa,hxa⟩:∃q,x.at_=q:=⟨_,rfl⟩
   obtain⟨xz,hxz⟩:∃q,x.end_=q:=⟨_,rfl⟩
   obtain⟨xn,hxn⟩:∃q,x.kids.length=q:=⟨_,rfl⟩
   have hcs':∀q v,[Value.int .i64 xk,.string xt,.int .i64 xa,.int .i64 xz,.slice A' xn c'][q]? =some v->wr.cell? ⟨bk,off+k*5+q,none⟩=some v:=fun q v hq=>by
    have:=hcell _ _ (hfl q v (by rw[hxk,hxt,hxa,hxz,hxn];exact hq));rw[show off+(k*5+q)=off+k*5+q by omega]at this;exact this
   have t0:wr.cell? ⟨bk,off+k*5,none⟩=some (.int .i64 xk):=by simpa using hcs' 0 _ rfl
   have t1:wr.cell? ⟨bk,off+k*5+1,none⟩=some (.string xt):=by simpa using hcs' 1 _ rfl
   have t2':wr.cell? ⟨bk,off+k*5+2,none⟩=some (.int .i64 xa):=by simpa using hcs' 2 _ rfl
   have t3:wr.cell? ⟨bk,off+k*5+3,none⟩=some (.int .i64 xz):=by simpa using hcs' 3 _ rfl
   have t4:wr.cell? ⟨bk,off+k*5+4,none⟩=some (.slice A' xn c'):=by simpa using hcs' 4 _ rfl
   have hok:=J5 HNOK.out hx;rw[Nat.zero_add]at hok;unfold Ph at hok;rw[hxk,hxt,aaF]at hok;have yD:Hid (Below w6.heap.size w6 (wr.alloc (.cells #[.int .i64 xk,.string xt,.int .i64 xa,.int .i64 xz,.slice A' xn c'] 24))):=kH (HB.out.trans ((af wr _).mono HB.out.size));have zP:=Sa t A c (k:Int) (wr.alloc (.cells #[.int .i64 xk,.string xt,.int .i64 xa,.int .i64 xz,.slice A' xn c'] 24)) (by have:=Rm.out;omega) HCAP.out (aD.mono (aaE p8.out.size yD.out.size) _ _ _ (aD.below (p8.out.trans (yD.out.mono p8.out.size)) (aaD _) _ _ _ HK.out));rw[D9.out]at zP;have HVIS:=kH zP;have Xo:qF t (k:Int)=(bJ (aR t).bQ (k:Int)).getD []:=by unfold qF;rw[if_pos Mg.out]
   have p0:=Mj.out.cell 0;have p1:=Mj.out.cell 1;have p2':=Mj.out.cell 2;have p3:=Mj.out.cell 3;have p4:=Mj.out.cell 4;have lp:=Mj.out.lt;have r1:=HRWr.out.cell 1;have lr:=HRWr.out.lt;clear hx hT hfl hcell hxk hxt hxa hxz hxn hcs' zP;by_cases hA:xk=20/\xt.toList=[120]
   ·obtain⟨rfl,Zc⟩:=hA
    have h1:=hok.1;rw[ByteArray.toList_eq]at Zc;rw[Zc]at h1;simp only[decide_true,beq_self_eq_true,Bool.and_self,Bool.not_true,Bool.false_or,aaF,decide_eq_true_eq]at h1;rw[<- ByteArray.toList_eq]at Zc;have HVV:Hid (qF t (k:Int)=[1]):=kH (by rw[Xo];exact h1.2);obtain⟨ub,uo,ucap,huv,-,-,-,hub,huc⟩:=(xg.out.below (HB62.out.trans (HB.out.mono HB62.out.size)) (fun g hg=>(xg.out.lt g hg).2)).form (by omega);simp only[Value.slice.injEq,true_and]at huv;obtain⟨rfl,rfl⟩:=huv;have cu:wr.cell? ⟨ub,uo+k,none⟩=some (.int .i64 1):=huc k _ (by unfold iE;rw[List.getElem?_map,h1.1];rfl);clear hok h1 Xo huc;go_wp2_with fail
    refine HVIS.out.mono ?_;rintro e7 w7 ⟨v7,rfl,Cc,dE⟩;rw[show qF t (k:Int)=[1] from HVV.out]at Cc;obtain⟨Av,cv,hv7,-,-⟩:=Cc.shape;subst hv7;have Bc:=kH Cc;have iG:=kH dE;clear Cc dE;go_wp2_with fail
    refine(Jl Av (some ⟨w7.heap.size,0,none⟩) 1 1 cv 1 [1] [1] _ (((Bc.out.rowAt (cells:=dM) (l:=[1]) rfl (qH _) (fun _ _=>rfl) rfl).below (af _ _) (aaD _)).mono (by simp)) (YX 1 (by go_simp) (by simp)) rfl rfl (by omega)).mono ?_;rintro e8 w8 ⟨rfl,dK⟩;have xw:Hid (Below w6.heap.size w6 w8):=kH ((yD.out.trans (iG.out.mono yD.out.size)).trans (((af w7 _).trans (dK.mono (by simp))).mono (aaE yD.out.size iG.out.size)));have ZB:=((((ai.new wr 24 #[.int .i64 20,.string xt,.int .i64 xa,.int .i64 xz,.slice A' xn c']).below iG.out (by simp)).alloc (.cells #[.int .i64 1] 3)).below dK (by have:=iG.out.size;simp at this⊢;omega))
    have x8:=ZB.cell 0;have lx8:=ZB.lt;simp only[decide_true];clear dK ZB;go_wp2_with fail
    go_roundg (gk - 1)
    case measure=>omega
    case rel=>exact⟨k+1,by simp,by omega,xw⟩
   ·by_cases hBk:xk=19
    ·subst hBk
     have h1:=hok.2;simp only[decide_true,Bool.not_true,Bool.false_or,decide_eq_true_eq]at h1;have HVV:Hid (qF t (k:Int)=[1,2]):=kH (by rw[Xo];exact h1);clear hok h1 Xo hA;go_wp2_with fail
     refine HVIS.out.mono ?_;rintro e7 w7 ⟨v7,rfl,Cc,dE⟩;rw[show qF t (k:Int)=[1,2] from HVV.out]at Cc;obtain⟨Av,cv,hv7,-,-⟩:=Cc.shape;subst hv7;have Bc:=kH Cc;have iG:=kH dE;clear Cc dE;go_wp2_with fail
     refine(Jl Av (some ⟨w7.heap.size,0,none⟩) 2 2 cv 2 [1,2] [1,2] _ (((Bc.out.rowAt (cells:=dM) (l:=[1,2]) rfl (qH _) (fun _ _=>rfl) rfl).below (af _ _) (aaD _)).mono (by simp)) (YW 1 2 (by go_simp) (by go_simp) (by simp)) rfl rfl (by omega)).mono ?_;rintro e8 w8 ⟨rfl,dK⟩;have xw:Hid (Below w6.heap.size w6 w8):=kH ((yD.out.trans (iG.out.mono yD.out.size)).trans (((af w7 _).trans (dK.mono (by simp))).mono (aaE yD.out.size iG.out.size)));simp only[decide_true];clear dK;go_wp2_with fail
     go_roundg (gk - 1)
     case measure=>omega
     case rel=>exact⟨k+1,by simp,by omega,xw⟩
    ·have hf19:(xk==19)=false:=by simp[hBk]
     clear hok Xo;have YC:Hid (Below w6.heap.size w6 (wr.alloc (.cells #[.int .i64 xk,.string xt,.int .i64 xa,.int .i64 xz,.slice A' xn c'] 24))):=yD;by_cases h20:xk=20
     ·have hx2:(xt.toList==[120])=false:=by
       rw[beq_eq_false_iff_ne];exact fun h=>hA ⟨h20,h⟩
      have hx3:¬xt.toList=[120]:=fun h=>hA ⟨h20,h⟩
      have Zt:(xk==20)=true:=by simp[h20]
      clear hA h20 hBk;go_wp2_with fail
      go_roundg (gk - 1)
      case measure=>omega
      case rel=>exact⟨k+1,by simp,by omega,YC⟩
     ·have Zt:(xk==20)=false:=by simp[h20]
      clear hA h20 hBk;go_wp2_with fail
      go_roundg (gk - 1)
      case measure=>omega
      case rel=>exact⟨k+1,by simp,by omega,YC⟩
  ·have hkn:k=n6:=by omega
   subst hkn;have hge:¬((k:Int)<(k:Int)):=by omega
   have s0:=Mh.out.cell 0;have s1:=Mh.out.cell 1;have s2:=Mh.out.cell 2;have s3:=Mh.out.cell 3;have s4:=Mh.out.cell 4;have ls:=Mh.out.lt;obtain⟨hfr,hcn2⟩:=R6 HS2.out;have ZI:Below w3.heap.size w3 wr:=HB63.out.trans (HB.out.mono HB63.out.size);have hfree:=aaA t2 A2 c2 wr (by omega) (aD.mono ZI.size _ _ _ (aD.below ZI (aaD _) _ _ _ Ap.out));rw[HNV2.out,hfr]at hfree;have HFR:=kH hfree;clear hfree hfr ZI hcn2;go_wp2_with fail
   refine HFR.out.mono ?_;rintro e7 w7 ⟨v7,rfl,Cc,dE⟩;obtain⟨Av,cv,hv7,-,-⟩:=Cc.shape;subst hv7;have Bc:=kH Cc;have iG:Hid (Below w1.heap.size w1 w7):=kH ((p8.out.trans (HB.out.mono p8.out.size)).trans (dE.mono (aaE p8.out.size HB.out.size)));clear Cc dE s0 s1 s2 s3 s4 ls;go_wp2_with fail
   refine(Yb Av (some ⟨w7.heap.size,0,none⟩) 3 3 cv 3 [⟨#[97]⟩,⟨#[99]⟩,⟨#[100]⟩] [⟨#[97]⟩,⟨#[99]⟩,⟨#[100]⟩] _ (((Bc.out.rowAt (cells:=eZ) (l:=[⟨#[97]⟩,⟨#[99]⟩,⟨#[100]⟩]) rfl rfl (fun _ _=>rfl) rfl).below (af _ _) (aaD _)).mono (by simp)) (Uj _ _ _ (by go_simp) (by go_simp) (by go_simp) (by simp)) rfl rfl (by omega)).mono ?_;rintro e8 w8 ⟨rfl,dK⟩;have xw:Hid (Below w.heap.size w w8):=kH (HB1.out.trans ((iG.out.trans (((af w7 _).trans (dK.mono (by simp))).mono iG.out.size)).mono HB1.out.size));simp only[decide_true];clear dK;go_wp2_with fail
   go_ret
   exact⟨rfl,xw.out⟩
end Go.Proofs.YtoepemlnlpamlaaGreat
