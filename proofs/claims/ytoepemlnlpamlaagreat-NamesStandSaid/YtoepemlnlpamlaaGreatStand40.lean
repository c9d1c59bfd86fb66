/- The law NamesStand holds: for every text and every number the law returns true, and its arguments read as before. No condition. Part 40: Ints Awk1 Awk2. -/
import Derived.Test.YtoepemlnlpamlaaGreatStand15
import Derived.Test.YtoepemlnlpamlaaGreatStand19
import Derived.Test.YtoepemlnlpamlaaGreatStand39
set_option maxRecDepth 100000
set_option maxHeartbeats 4000000
namespace Go.Proofs.YtoepemlnlpamlaaGreat
open Go.RowKit
theorem NW{α:Type}{l1 l2:List α}{k:Nat}{x y:α}(h:l1.take k=l2.take k)(h1:l1[k]? =some x)(h2:l2[k]? =some y)(hxy:x=y):l1.take (k+1)=l2.take (k+1):=by
 rw[List.take_add_one,List.take_add_one,h,h1,h2,hxy]
theorem Qy(A1 A2:Option Addr)(n1 n2 c1 c2:Nat)(l1 l2:List Int)(w:World)(h1:df 1 iO w w.heap.size A1 l1)(h2:df 1 iO w w.heap.size A2 l2)(hl1:l1.length=n1)(hl2:l2.length=n2)(hn:n1<=1000000):
 Calls Tryz.prog 16 #[.slice A1 n1 c1,.slice A2 n2 c2] w fun e w'=>e= .returned (.bool (decide (l1=l2)))/\Below w.heap.size w w':=by
 by_cases hne:n1=n2
 ·subst hne
  have H1:=kH h1;have H2:=kH h2;have uK:=kH hl1;have HL2:=kH hl2;clear h1 h2 hl1 hl2;go_enter Tryz.func16,Tryz.ntmps16
  go_wp2_with fail
  go_loopg [5] n1 (fun gk s wr=> ∃k:Nat,k+gk=n1/\s= .int .i64 k/\Below w.heap.size w wr/\l1.take k=l2.take k)
  case atStart=>exact⟨0,by omega,rfl,Below.refl _ _,rfl⟩
  case round=>
   obtain⟨k,hk,rfl,hB,ht⟩:=hrel;have hk':k<=n1:=by omega
   have HK:=kH hk;have HT:=kH ht;clear hk ht;by_cases hlt:k<n1
   ·have e1:l1[k]? =some (l1[k]'(by rw[uK.out];exact hlt)):=aaf _
    have e2:l2[k]? =some (l2[k]'(by rw[HL2.out];exact hlt)):=aaf _;generalize l1[k]'(by rw[uK.out];exact hlt)=x at e1
    generalize l2[k]'(by rw[HL2.out];exact hlt)=y at e2
    obtain⟨b1,o1,hA1,hb1,hc1⟩:=(H1.out.below hB (aab _)) k _ e1;obtain⟨b2,o2,hA2,hb2,hc2⟩:=(H2.out.below hB (aab _)) k _ e2;subst hA1;subst hA2;have hx:wr.cell? ⟨b1,o1+k,none⟩=some (.int .i64 x):=by simpa using hc1 0 _ rfl
    have hy:wr.cell? ⟨b2,o2+k,none⟩=some (.int .i64 y):=by simpa using hc2 0 _ rfl
    have E1:=kH e1;have E2:=kH e2;have hkn:(k:Int)<(n1:Int):=by omega
    clear hc1 hc2 e1 e2;by_cases hxy:x=y
    ·subst hxy
     go_wp2_with fail
     go_quiet (fail)
     go_wp2_with fail
     go_roundg (gk - 1)
     case measure=>have:=HK.out;omega
     case rel=>exact⟨k+1,by have:=HK.out;omega,by go_num,by(repeat (first|exact Below.refl _ _|assumption|refine Below.trans ?_ (Below.mono (by assumption) (by first|omega|(simp;done)|(simp;omega)))|refine Below.alloc ?_ (by first|omega|(simp;done)|(simp;omega)) _|refine Below.setCell ?_ (by first|omega|(simp;done)|(simp;omega)) _|refine Below.drew ?_|refine bq ?_ _)),NW HT.out E1.out E2.out rfl⟩
    ·have hxb:(x !=y)=true:=by simpa using hxy
     have hres:decide (l1=l2)=false:=by
      refine decide_eq_false fun e=>?_
      have:=E1.out;rw[e,E2.out]at this;cases this
      exact hxy rfl
     have aV:=kH hres;clear hres hxy;go_wp2_with fail
     go_quiet (fail)
     go_wp2_with fail
     go_ret
     rw[aV.out];exact⟨rfl,by(repeat (first|exact Below.refl _ _|assumption|refine Below.trans ?_ (Below.mono (by assumption) (by first|omega|(simp;done)|(simp;omega)))|refine Below.alloc ?_ (by first|omega|(simp;done)|(simp;omega)) _|refine Below.setCell ?_ (by first|omega|(simp;done)|(simp;omega)) _|refine Below.drew ?_|refine bq ?_ _))⟩
   ·have hres:decide (l1=l2)=true:=by
     have h:=HT.out;rw[List.take_of_length_le (by rw[uK.out];omega),List.take_of_length_le (by rw[HL2.out];omega)]at h;exact decide_eq_true h
    have aV:=kH hres;clear hres;go_wp2_with fail
    go_ret
    rw[aV.out];exact⟨rfl,by(repeat (first|exact Below.refl _ _|assumption|refine Below.trans ?_ (Below.mono (by assumption) (by first|omega|(simp;done)|(simp;omega)))|refine Below.alloc ?_ (by first|omega|(simp;done)|(simp;omega)) _|refine Below.setCell ?_ (by first|omega|(simp;done)|(simp;omega)) _|refine Below.drew ?_|refine bq ?_ _))⟩
 ·have hb:(n1 !=n2)=true:=by simpa using hne
  have hres:decide (l1=l2)=false:=decide_eq_false (fun e=>hne (by rw[<- hl1,<- hl2,e]));have aV:=kH hres;have hb2:((n1:Int) !=(n2:Int))=true:=by simp;omega
  clear hres h1 h2 hl1 hl2;go_enter Tryz.func16,Tryz.ntmps16
  go_wp2_with fail
  go_ret
  rw[aV.out];exact⟨rfl,by(repeat (first|exact Below.refl _ _|assumption|refine Below.trans ?_ (Below.mono (by assumption) (by first|omega|(simp;done)|(simp;omega)))|refine Below.alloc ?_ (by first|omega|(simp;done)|(simp;omega)) _|refine Below.setCell ?_ (by first|omega|(simp;done)|(simp;omega)) _|refine Below.drew ?_|refine bq ?_ _))⟩
theorem Xn(A1 A2:Option Addr)(n1 n2 c1 c2:Nat)(l1 l2:List ByteArray)(w:World)(h1:df 1 fP w w.heap.size A1 l1)(h2:df 1 fP w w.heap.size A2 l2)(hl1:l1.length=n1)(hl2:l2.length=n2)(hn:n1<=1000000):
 Calls Tryz.prog 19 #[.slice A1 n1 c1,.slice A2 n2 c2] w fun e w'=>e= .returned (.bool (decide (l1=l2)))/\Below w.heap.size w w':=by
 by_cases hne:n1=n2
 ·subst hne
  have H1:=kH h1;have H2:=kH h2;have uK:=kH hl1;have HL2:=kH hl2;clear h1 h2 hl1 hl2;go_enter Tryz.func19,Tryz.ntmps19
  go_wp2_with fail
  go_loopg [5] n1 (fun gk s wr=> ∃k:Nat,k+gk=n1/\s= .int .i64 k/\Below w.heap.size w wr/\l1.take k=l2.take k)
  case atStart=>exact⟨0,by omega,rfl,Below.refl _ _,rfl⟩
  case round=>
   obtain⟨k,hk,rfl,hB,ht⟩:=hrel;have hk':k<=n1:=by omega
   have HK:=kH hk;have HT:=kH ht;clear hk ht;by_cases hlt:k<n1
   ·have e1:l1[k]? =some (l1[k]'(by rw[uK.out];exact hlt)):=aaf _
    have e2:l2[k]? =some (l2[k]'(by rw[HL2.out];exact hlt)):=aaf _;generalize l1[k]'(by rw[uK.out];exact hlt)=x at e1
    generalize l2[k]'(by rw[HL2.out];exact hlt)=y at e2
    obtain⟨b1,o1,hA1,hb1,hc1⟩:=(H1.out.below hB (aab _)) k _ e1;obtain⟨b2,o2,hA2,hb2,hc2⟩:=(H2.out.below hB (aab _)) k _ e2;subst hA1;subst hA2;have hx:wr.cell? ⟨b1,o1+k,none⟩=some (.string x):=by simpa using hc1 0 _ rfl
    have hy:wr.cell? ⟨b2,o2+k,none⟩=some (.string y):=by simpa using hc2 0 _ rfl
    have E1:=kH e1;have E2:=kH e2;have hkn:(k:Int)<(n1:Int):=by omega
    clear hc1 hc2 e1 e2;by_cases hxy:x=y
    ·subst hxy
     go_wp2_with fail
     go_quiet (fail)
     go_wp2_with fail
     go_roundg (gk - 1)
     case measure=>have:=HK.out;omega
     case rel=>exact⟨k+1,by have:=HK.out;omega,by go_num,by(repeat (first|exact Below.refl _ _|assumption|refine Below.trans ?_ (Below.mono (by assumption) (by first|omega|(simp;done)|(simp;omega)))|refine Below.alloc ?_ (by first|omega|(simp;done)|(simp;omega)) _|refine Below.setCell ?_ (by first|omega|(simp;done)|(simp;omega)) _|refine Below.drew ?_|refine bq ?_ _)),NW HT.out E1.out E2.out rfl⟩
    ·have hxb:¬x.toList=y.toList:=fun h=>hxy (vC (by rw[<- ByteArray.toList_eq,<- ByteArray.toList_eq,h]))
     have Z6:(x.toList==y.toList)=false:=by rw[beq_eq_false_iff_ne];exact hxb
     have hres:decide (l1=l2)=false:=by
      refine decide_eq_false fun e=>?_
      have:=E1.out;rw[e,E2.out]at this;cases this
      exact hxy rfl
     have aV:=kH hres;clear hres hxy;go_wp2_with fail
     go_quiet (fail)
     go_wp2_with fail
     go_ret
     rw[aV.out];exact⟨rfl,by(repeat (first|exact Below.refl _ _|assumption|refine Below.trans ?_ (Below.mono (by assumption) (by first|omega|(simp;done)|(simp;omega)))|refine Below.alloc ?_ (by first|omega|(simp;done)|(simp;omega)) _|refine Below.setCell ?_ (by first|omega|(simp;done)|(simp;omega)) _|refine Below.drew ?_|refine bq ?_ _))⟩
   ·have hres:decide (l1=l2)=true:=by
     have h:=HT.out;rw[List.take_of_length_le (by rw[uK.out];omega),List.take_of_length_le (by rw[HL2.out];omega)]at h;exact decide_eq_true h
    have aV:=kH hres;clear hres;go_wp2_with fail
    go_ret
    rw[aV.out];exact⟨rfl,by(repeat (first|exact Below.refl _ _|assumption|refine Below.trans ?_ (Below.mono (by assumption) (by first|omega|(simp;done)|(simp;omega)))|refine Below.alloc ?_ (by first|omega|(simp;done)|(simp;omega)) _|refine Below.setCell ?_ (by first|omega|(simp;done)|(simp;omega)) _|refine Below.drew ?_|refine bq ?_ _))⟩
 ·have hb:(n1 !=n2)=true:=by simpa using hne
  have hres:decide (l1=l2)=false:=decide_eq_false (fun e=>hne (by rw[<- hl1,<- hl2,e]));have aV:=kH hres;have hb2:((n1:Int) !=(n2:Int))=true:=by simp;omega
  clear hres h1 h2 hl1 hl2;go_enter Tryz.func19,Tryz.ntmps19
  go_wp2_with fail
  go_ret
  rw[aV.out];exact⟨rfl,by(repeat (first|exact Below.refl _ _|assumption|refine Below.trans ?_ (Below.mono (by assumption) (by first|omega|(simp;done)|(simp;omega)))|refine Below.alloc ?_ (by first|omega|(simp;done)|(simp;omega)) _|refine Below.setCell ?_ (by first|omega|(simp;done)|(simp;omega)) _|refine Below.drew ?_|refine bq ?_ _))⟩
end Go.Proofs.YtoepemlnlpamlaaGreat
namespace Go.Proofs.YtoepemlnlpamlaaGreat
def Ju:bE:=[112,114,111,99,32,102,40,120,41,123,118,97,114,32,121,61,120,59,103,40,121,41,59,125,112,114,111,99,32,103,40,122,41,123,125]
def F3:bE:=[105,102,32,97,32,123,32,118,97,114,32,98,32,61,32,99,59,32,100,32,61,32,98,59,32,125]
def Lp(x:Int):List Int->List Int
 | []=>[x]
 | y::l=>if x<=y then x::y::l else y::Lp x l
def mH:List Int->List Int
 | []=>[]
 | x::l=>Lp x (mH l)
theorem ET(x:Int):∀l:List Int,(Lp x l).Perm (x::l)
 | []=>List.Perm.refl _
 | y::l=>by
  rw[Lp];split
  ·exact List.Perm.refl _
  ·exact((ET x l).cons y).trans (List.Perm.swap x y l)
theorem GK(x:Int):∀l:List Int,l.Pairwise (· <= ·)->(Lp x l).Pairwise (· <= ·)
 | [],_=>List.pairwise_singleton _ _
 | y::l,h=>by
  rw[List.pairwise_cons]at h;rw[Lp];split
  ·rename_i hxy
   rw[List.pairwise_cons];refine⟨fun z hz=>?_,List.pairwise_cons.2 h⟩;rcases List.mem_cons.1 hz with rfl|hz
   ·exact hxy
   ·exact Int.le_trans hxy (h.1 z hz)
  ·rename_i hxy
   rw[List.pairwise_cons];refine⟨fun z hz=>?_,GK x l h.2⟩;rcases List.mem_cons.1 ((ET x l).mem_iff.1 hz) with rfl|hz
   ·omega
   ·exact h.1 z hz
theorem Jy:∀l:List Int,(mH l).Perm l
 | []=>List.Perm.refl _
 | x::l=>(ET x _).trans ((Jy l).cons x)
theorem Ez:∀l:List Int,(mH l).Pairwise (· <= ·)
 | []=>List.Pairwise.nil
 | x::l=>GK x _ (Ez l)
theorem Yb(l:List Int):mH l=ah l:=by
 rw[<- Mc (Jy l)];refine(List.mergeSort_of_pairwise ?_).symm;exact(Ez l).imp fun h=>by simpa using h
mutual
def Ev(G:bD)(inside:Bool):aa->aT->RS->RS×aT
 | .node k x a e kids,s,r0=>
  let t:aa:=.node k x a e kids
  let n:=r0.next
  let r:RS:={ r0 with next:=n+1,bH:=if inside then dK r0.bH (n:Int) (mH (aj s)) else r0.bH }
  let tq:=(bY G.globals x).getD 0
  if k=3 then eF G inside kids 0 kids.length s { bF r 0 n t (decide (tq≠n)) with owner:=n }
  else if k=4 then eF G inside kids 0 kids.length s (bF r 1 n t (decide ((bY G.fields x).getD 0≠n)))
  else if k=5 then
   let r1:RS:={ bF r 2 n t (decide (tq≠n)) with owner:=n }
   let q:=eF G false kids 0 2 [[]] r1
   ((eF G true kids 2 1 ([]::q.2) q.1).1,s)
  else if k=7\/k=8 then
   let q:=aD G r 3 n t s
   eF G inside kids 0 kids.length q.2 q.1
  else if k=11 then
   let q:=eF G inside kids 0 kids.length ([]::s) r
   (q.1,q.2.tail)
  else if k=12 then
   let q:=aD G r 4 n t ([]::s)
   let q2:=eF G inside kids 0 2 s q.1
   (q2.1,lL q2.2 (q.2.headD []))
  else if k=16 then
   let q:=aD G r 5 n t ([]::s)
   let q2:=eF G inside kids 0 2 s q.1
   let q3:=eF G inside kids 2 1 (q.2.headD []::q2.2) q2.1
   (q3.1,q3.2.tail)
  else
   let r1:=if k=20 then gB r n t (eO s x)
    else if k=22 then gB r n t (bY G.fields x)
    else if k=27 then gB r n t (bY G.globals x)
    else if k=19 then gB r n t ((bY G.globals x).filter fun j=>decide (mM G j=5))
    else if k=9/\iB x=false then gB r n t ((bY G.globals x).filter fun j=>decide (mM G j=3))
    else r
   eF G inside kids 0 kids.length s r1
def eF(G:bD)(inside:Bool):List aa->Nat->Nat->aT->RS->RS×aT
 | [],_,_,s,r=>(r,s)
 | _::ts,from_+1,n,s,r=>eF G inside ts from_ n s r
 | _::_,0,0,s,r=>(r,s)
 | t::ts,0,n+1,s,r=>
  let q:=Ev G inside t s r
  eF G inside ts 0 n q.2 q.1
end
theorem Tu(G:bD)(i:Bool)(k:Int)(x:ByteArray)(a e:Int)(kids:List aa)(s:aT)(r:RS):Ev G i (.node k x a e kids) s r=
 if k=3 then eF G i kids 0 kids.length s { bF (aB r i (mH (aj s))) 0 r.next (.node k x a e kids) (decide ((bY G.globals x).getD 0≠(r.next:Int))) with owner:=(r.next:Int) }
 else if k=4 then eF G i kids 0 kids.length s (bF (aB r i (mH (aj s))) 1 r.next (.node k x a e kids) (decide ((bY G.fields x).getD 0≠(r.next:Int))))
 else if k=5 then((eF G true kids 2 1 ([]::(eF G false kids 0 2 [[]] { bF (aB r i (mH (aj s))) 2 r.next (.node k x a e kids) (decide ((bY G.globals x).getD 0≠(r.next:Int))) with owner:=(r.next:Int) }).2) (eF G false kids 0 2 [[]] { bF (aB r i (mH (aj s))) 2 r.next (.node k x a e kids) (decide ((bY G.globals x).getD 0≠(r.next:Int))) with owner:=(r.next:Int) }).1).1,s)
 else if k=7\/k=8 then eF G i kids 0 kids.length (aD G (aB r i (mH (aj s))) 3 r.next (.node k x a e kids) s).2 (aD G (aB r i (mH (aj s))) 3 r.next (.node k x a e kids) s).1
 else if k=11 then((eF G i kids 0 kids.length ([]::s) (aB r i (mH (aj s)))).1,(eF G i kids 0 kids.length ([]::s) (aB r i (mH (aj s)))).2.tail)
 else if k=12 then((eF G i kids 0 2 s (aD G (aB r i (mH (aj s))) 4 r.next (.node k x a e kids) ([]::s)).1).1,lL (eF G i kids 0 2 s (aD G (aB r i (mH (aj s))) 4 r.next (.node k x a e kids) ([]::s)).1).2 ((aD G (aB r i (mH (aj s))) 4 r.next (.node k x a e kids) ([]::s)).2.headD []))
 else if k=16 then((eF G i kids 2 1 ((aD G (aB r i (mH (aj s))) 5 r.next (.node k x a e kids) ([]::s)).2.headD []::(eF G i kids 0 2 s (aD G (aB r i (mH (aj s))) 5 r.next (.node k x a e kids) ([]::s)).1).2) (eF G i kids 0 2 s (aD G (aB r i (mH (aj s))) 5 r.next (.node k x a e kids) ([]::s)).1).1).1,
  (eF G i kids 2 1 ((aD G (aB r i (mH (aj s))) 5 r.next (.node k x a e kids) ([]::s)).2.headD []::(eF G i kids 0 2 s (aD G (aB r i (mH (aj s))) 5 r.next (.node k x a e kids) ([]::s)).1).2) (eF G i kids 0 2 s (aD G (aB r i (mH (aj s))) 5 r.next (.node k x a e kids) ([]::s)).1).1).2.tail)
 else eF G i kids 0 kids.length s (ik G s r (aB r i (mH (aj s))) (.node k x a e kids)):=by
 rw[Ev];rfl
mutual
theorem LX(G:bD):∀(t:aa) (i:Bool) (s:aT) (r:RS),Ev G i t s r=aL G i t s r
 | .node k x a e kids,i,s,r=>by
  have ih:∀i f n s r,eF G i kids f n s r=af G i kids f n s r:=fun i f n s r=>CQ G kids i f n s r
  rw[di,Tu];simp only[ih,Yb]
theorem CQ(G:bD):∀(ts:List aa) (i:Bool) (f n:Nat) (s:aT) (r:RS),eF G i ts f n s r=af G i ts f n s r
 | [],i,f,n,s,r=>by rw[eF,af]
 | t::ts,i,f+1,n,s,r=>by rw[eF,af];exact CQ G ts i f n s r
 | t::ts,i,0,0,s,r=>by rw[eF,af]
 | t::ts,i,0,n+1,s,r=>by
  rw[eF,af];rw[LX G t i s r];exact CQ G ts i 0 n _ _
end
def Ia(t:aa):RS:=
 let r:=(Ev (fG t) false t [] ⟨[],List.replicate (ai t) (-1),[],[],0,0⟩).1
 { r with uses:=r.uses.map (nN r.ds),bH:=r.bH.map fun x=>(x.1,x.2.map (nN r.ds)) }
theorem Q5(t:aa):Ia t=cK t:=by
 unfold Ia cK;rw[LX]
def OP(r:RS)(k:Nat)(x:aa):Bool:=
 (!(decide (x.kind=20)&&(x.text.data.toList==[120])) || (decide (r.uses[k]? =some 1)&&decide ((bG r.bH (k:Int)).getD []=[1])))&&(!decide (x.kind=19) || decide ((bG r.bH (k:Int)).getD []=[1,2]))
def F9(r:RS):List aa->Nat->Bool
 | [],_=>true
 | x::l,k=>OP r k x&&F9 r l (k+1)
def Qn(t:aa)(ds:List Dg):Bool:=
 let r:=Ia t
 decide (ds.length=0)&&j6 t&&decide (r.aR.length=0)&&decide (r.ds.length=5)&&decide ((r.ds[2]?.map (·.name.data.toList))=some [121])&&decide ((r.ds[4]?.map (·.kind))=some 3)&&decide (r.uses.length=ai t)&&decide (ai t<=100)&&F9 r (bL t) 0
def KE(t:aa):Bool:=decide ((nQ t [] []).map (·.data.toList)=[[97],[99],[100]])&&decide (ai t<=100)
theorem parse1:((qE 40 Ju).map fun x=>Qn x.1 x.2)=some true:=by kernel_rfl
def Xe:Option (List aa×PS)->Bool
 | some ([x],p)=>KE x&&decide (bP (mG F3) p=5)
 | _=>false
theorem parse2:Xe (aO F3 (mG F3) 30 .stmt ⟨0,0,[]⟩)=true:=by kernel_rfl
theorem parse2':∃x p,aO F3 (mG F3) 30 .stmt ⟨0,0,[]⟩=some ([x],p)/\KE x=true/\bP (mG F3) p=5:=by
 have h:=parse2;unfold Xe at h;split at h
 ·rename_i x p e
  rw[aad,decide_eq_true_eq]at h;exact⟨x,p,e,h.1,h.2⟩
 ·cases h
theorem Gz(f:Nat)(s:bE)(y:aa×List Dg)(h:qE f s=some y):qE (f+1) s=some y:=by
 unfold qE at h⊢
 cases hp:j3 s (mG s) f ⟨0,0,[]⟩ [] with
 | none=>rw[hp]at h;cases h
 | some q=>
  rw[zz f _ _ q hp];rw[hp]at h;exact h
theorem parse1'{f:Nat}{t:aa}{ds:List Dg}(h:qE f Ju=some (t,ds)):Qn t ds=true:=by
 have h1:=parse1
 cases hp:qE 40 Ju with
 | none=>rw[hp]at h1;cases h1
 | some y=>
  have e1:=kD (F:=fun f=>qE f Ju) (fun f y h=>Gz f _ y h) (Nat.le_max_left f 40) h;have e2:=kD (F:=fun f=>qE f Ju) (fun f y h=>Gz f _ y h) (Nat.le_max_right f 40) hp;rw[e1]at e2;rw[hp]at h1;cases e2
  simpa using h1
theorem JR{r:RS}:∀{l:List aa}{k:Nat},F9 r l k=true->∀{j:Nat}{x:aa},l[j]? =some x->OP r (k+j) x=true
 | [],_,_,j,x,h=>by cases h
 | y::l,k,hk,j,x,h=>by
  rw[F9,aad]at hk
  cases j with
  | zero=>
   simp only[aai,aag]at h;rw[<- h];exact hk.1
  | succ j=>
   rw[aaj]at h;have:=JR hk.2 h;rw[show k+1+j=k+(j+1) by omega]at this;exact this
open Go.RowKit
theorem zN.at_{w0:World}{t:aa}{ds:List Dg}{e:Ending}{w':World}(h:zN w0 t ds e w'):∃A c DA dc,e= .returned (.tuple #[bB t A c,.slice DA ds.length dc,.int .i64 0])/\t.kids.length<=c/\aK w' w'.heap.size A 0 t.kids/\aP w' w0.heap.size 78 5 (.slice DA ds.length dc) ds.length (ds.flatMap cO)/\Below w0.heap.size w0 w':=by
 obtain⟨k,x,a,z,A,n,c,DA,dn,dc,he,hT,hd,ho,hb⟩:=h;have hat:=aF.at_ t _ hT;have hcap:=hat.cap;obtain⟨A',c',h1,h2⟩:=hat.five;simp only[List.cons.injEq,Value.int.injEq,Value.string.injEq,Value.slice.injEq,true_and,and_true]at h1;obtain⟨rfl,rfl,rfl,rfl,rfl,rfl,rfl⟩:=h1;subst hd;exact⟨A,c,DA,dc,he,hcap,h2,ho,hb⟩
theorem lM.get{w:World}{B:Nat}:∀{ts:List aa}{vs:List (List Value)},lM w B ts vs->∀{j:Nat}{x:aa},ts[j]? =some x->∃cs,mg w B x cs/\∀q u,cs[q]? =some u->(List.flatten vs)[j*5+q]? =some u
 | [],_,_,j,x,h=>by cases h
 | t::ts,vs0,h0,j,x,h=>by
  obtain⟨v,vs,rfl,h3,h4⟩:=h0;obtain⟨A,c,hv,-⟩:=h3.five;have hl:v.length=5:=by rw[hv];rfl
  cases j with
  | zero=>
   simp only[aai,aag]at h;subst h;refine⟨v,h3,fun q u hq=>?_⟩;have hlt:=(aah.1 hq).1;rw[List.flatten_cons,Nat.zero_mul,Nat.zero_add,List.getElem?_append_left hlt];exact hq
  | succ j=>
   rw[aaj]at h;obtain⟨cs,h5,h6⟩:=lM.get h4 h;refine⟨cs,h5,fun q u hq=>?_⟩;rw[List.flatten_cons,aal (by omega),hl,show(j+1)*5+q - 5=j*5+q by omega];exact h6 q u hq
theorem Yh{w:World}{b:Nat}(z:Int)(h:w.cell? ⟨b,0,none⟩=some (.int .i64 z))(hb:b<w.heap.size):df 1 iO w w.heap.size (some ⟨b,0,none⟩) [z]:=by
 intro k c hk
 match k,hk with
 | 0,hk=>
  cases hk
  refine⟨b,0,rfl,hb,fun j v hj=>?_⟩
  match j,hj with
  | 0,hj=>cases hj;exact h
  | j+1,hj=>simp[iO]at hj
 | k+1,hk=>simp at hk
theorem Yg{w:World}{b:Nat}(y z:Int)(h0:w.cell? ⟨b,0,none⟩=some (.int .i64 y))(h1:w.cell? ⟨b,1,none⟩=some (.int .i64 z))(hb:b<w.heap.size):df 1 iO w w.heap.size (some ⟨b,0,none⟩) [y,z]:=by
 intro k c hk
 match k,hk with
 | 0,hk=>
  cases hk
  refine⟨b,0,rfl,hb,fun j v hj=>?_⟩
  match j,hj with
  | 0,hj=>cases hj;exact h0
  | j+1,hj=>simp[iO]at hj
 | 1,hk=>
  cases hk
  refine⟨b,0,rfl,hb,fun j v hj=>?_⟩
  match j,hj with
  | 0,hj=>cases hj;exact h1
  | j+1,hj=>simp[iO]at hj
 | k+2,hk=>simp at hk
theorem TD{w:World}{b:Nat}(x y z:ByteArray)(h0:w.cell? ⟨b,0,none⟩=some (.string x))(h1:w.cell? ⟨b,1,none⟩=some (.string y))(h2:w.cell? ⟨b,2,none⟩=some (.string z))(hb:b<w.heap.size):df 1 fP w w.heap.size (some ⟨b,0,none⟩) [x,y,z]:=by
 intro k c hk
 match k,hk with
 | 0,hk=>
  cases hk
  refine⟨b,0,rfl,hb,fun j v hj=>?_⟩
  match j,hj with
  | 0,hj=>cases hj;exact h0
  | j+1,hj=>simp[fP]at hj
 | 1,hk=>
  cases hk
  refine⟨b,0,rfl,hb,fun j v hj=>?_⟩
  match j,hj with
  | 0,hj=>cases hj;exact h1
  | j+1,hj=>simp[fP]at hj
 | 2,hk=>
  cases hk
  refine⟨b,0,rfl,hb,fun j v hj=>?_⟩
  match j,hj with
  | 0,hj=>cases hj;exact h2
  | j+1,hj=>simp[fP]at hj
 | k+3,hk=>simp at hk
theorem Ae(l:List Int):jN l=l.flatMap iO:=by
 induction l with
 | nil=>rfl
 | cons a l ih=>rw[List.flatMap_cons,<- ih];rfl
theorem Rs{t:aa}(h:KE t=true):nQ t [] []=[⟨#[97]⟩,⟨#[99]⟩,⟨#[100]⟩]/\ai t<=100:=by
 unfold KE at h;rw[aad,decide_eq_true_eq,decide_eq_true_eq]at h;refine⟨?_,h.2⟩;have h1:=h.1;generalize nQ t [] []=l at h1⊢
 match l,h1 with
 | [x,y,z],h1=>
  simp only[List.map_cons,List.map_nil,List.cons.injEq,and_true]at h1;rw[vC (a:=x) (b:=⟨#[97]⟩) (by rw[h1.1]),vC (a:=y) (b:=⟨#[99]⟩) (by rw[h1.2.1]),vC (a:=z) (b:=⟨#[100]⟩) (by rw[h1.2.2])]
 | [],h1=>cases h1
 | [x],h1=>simp at h1
 | [x,y],h1=>simp at h1
 | x::y::z::u::l,h1=>simp at h1
theorem Xj(w:World):Calls Tryz.prog 11 #[] w fun e w'=>e= .returned (.bool true)/\Below w.heap.size w w':=by
 have hp1:=fun w=>Mj ⟨#[112,114,111,99,32,102,40,120,41,123,118,97,114,32,121,61,120,59,103,40,121,41,59,125,112,114,111,99,32,103,40,122,41,123,125]⟩ w (by decide)
 obtain⟨t2,p2,hs1,hs2,hs3⟩:=parse2';have hp2:=fun w=>Nq ⟨#[105,102,32,97,32,123,32,118,97,114,32,98,32,61,32,99,59,32,100,32,61,32,98,59,32,125]⟩ w (by decide) 30 t2 p2 hs1 hs3
 have Bh:=kH hp1;have yJ:=kH hp2;have HS2:=kH hs2;clear hp1 hp2 hs1 hs2 hs3;go_enter Tryz.func11,Tryz.ntmps11
 go_wp2_with fail
 refine(Bh.out _).mono ?_;rintro e1 w1 ⟨f,t,ds,hpm,htd⟩;have hck:=parse1' hpm;obtain⟨A,c,DA,dc,rfl,hcap,hk,hod,hb1⟩:=htd.at_;unfold Qn at hck;simp only[aad,decide_eq_true_eq,Q5]at hck;obtain⟨⟨⟨⟨⟨⟨⟨⟨hd0,hval⟩,hpr⟩,hds⟩,hdn⟩,hdk⟩,hul⟩,hcn⟩,hnok⟩:=hck;rw[hd0];obtain⟨k0,x0,a0,z0,n0,-,-,-,-,hn0,ji⟩:=gD t A c;rw[ji];have hres:=fun W (hb:Below w1.heap.size w1 W)=>Hd t A c W (by omega) hcap (aK.mono hb.size _ _ _ (aK.below hb (aab _) _ _ _ hk))
 rw[ji]at hres;have aV:=kH hres;have HB1:=kH hb1;have HCAP:=kH hcap;have HK:=kH hk;have LC:=kH hval;have qK:=kH hpr;have HDS:=kH hds;have HDN:=kH hdn;have HDK:=kH hdk;have HUL:=kH hul;have Em:=kH hcn;have HNOK:=kH hnok;have Bl:=kH ji;clear hpm htd hod hd0 hval hpr hds hdn hdk hul hcn hnok ji hres hb1 hcap hk hn0;go_wp2_with fail
 obtain⟨nb,hnb⟩:∃q,w1.heap.size=q:=⟨_,rfl⟩
 obtain⟨W1,hW1⟩:∃W1,w1.alloc (.cells #[.int .i64 k0,.string x0,.int .i64 a0,.int .i64 z0,.slice A n0 c] 24)=W1:=⟨_,rfl⟩
 rw[hW1];have hbW:Below w1.heap.size w1 W1:=by rw[<- hW1];exact ae _ _
 have wT:ak W1 w1.heap.size 24 #[.int .i64 k0,.string x0,.int .i64 a0,.int .i64 z0,.slice A n0 c]:=by rw[<- hW1];exact ak.new _ _ _
 have hcall:=aV.out W1 hbW;have HC:=kH hcall;have FN:=kH wT;have oD:=kH hbW;rw[hnb]at FN;clear hcall wT hbW hW1;refine HC.out.mono ?_;rintro e2 w2 h2;rcases h2 with⟨hf,-⟩| ⟨-,E,V,Aw,nw,cw,rfl,Ea,hR,hnw,how,hb2⟩
 ·rw[LC.out]at hf
  cases hf
 rw[qK.out]at hnw;subst hnw;rw[HDS.out,HUL.out];obtain⟨N,hN⟩:∃q,ai t=q:=⟨_,rfl⟩
 rw[hN]
 obtain⟨d2,hd2,YM⟩:∃d,(cK t).ds[2]? =some d/\d.name.data.toList=[121]:=by
  have:=HDN.out
  cases h:(cK t).ds[2]? with
  | none=>rw[h]at this;cases this
  | some d=>rw[h]at this;exact⟨d,rfl,by simpa using this⟩
 obtain⟨d4,hd4,hd4k⟩:∃d,(cK t).ds[4]? =some d/\d.kind=3:=by
  have:=HDK.out
  cases h:(cK t).ds[4]? with
  | none=>rw[h]at this;cases this
  | some d=>rw[h]at this;exact⟨d,rfl,by simpa using this⟩
 have hrow:=hR.ds.rowAt (cells:=kS) (l:=(cK t).ds) rfl rfl (fun _ _=>rfl) rfl;obtain⟨db,yY,Pv,hdl,Wz⟩:=hrow 2 d2 hd2;obtain⟨db',doff',YL,-,hdc'⟩:=hrow 4 d4 hd4;rw[Pv]at YL;simp only[aag,Addr.mk.injEq,and_true]at YL;obtain⟨rfl,rfl⟩:=YL;rw[Pv];have hc2:=Wz 1 _ rfl;have hc4:=hdc' 0 _ rfl;rw[hd4k]at hc4;obtain⟨yn,hyn⟩:∃q,d2.name=q:=⟨_,rfl⟩
 rw[hyn]at hc2 YM;have hyt:yn.toList=[121]:=by rw[ByteArray.toList_eq];exact YM
 obtain⟨uA,huA⟩:∃q,E.uA=q:=⟨_,rfl⟩
 obtain⟨uc,huc⟩:∃q,E.uc=q:=⟨_,rfl⟩
 obtain⟨dc2,hdc2⟩:∃q,V.dc=q:=⟨_,rfl⟩
 rw[huA,huc,hdc2];have O6:=hR.us;rw[HUL.out,hN,huA,huc]at O6;have zl:=kH O6;have QH:=kH hN;have ug:Hid (w2.cell? ⟨db,yY+9,none⟩=some (.string yn)/\w2.cell? ⟨db,yY+16,none⟩=some (.int .i64 3)/\db<w2.heap.size):=kH ⟨by simpa using hc2,by simpa using hc4,hdl⟩;have Vq:=kH (FN.out.below hb2 FN.out.lt);have HB2:Hid (Below w1.heap.size w1 w2):=kH (oD.out.trans (hb2.mono oD.out.size));have hNm:N<=100:=by rw[<- hN];exact Em.out
 clear Ea hR how hb2 hd2 YM hd4 hd4k hrow Pv Wz hdc' hdl hc2 hc4 hyn huA huc hdc2 O6 hN HC;go_wp2_with fail
 obtain⟨rb,hrb⟩:∃q,w2.heap.size=q:=⟨_,rfl⟩
 obtain⟨W2,hW2⟩:∃W2,w2.alloc (.cells #[.slice (some ⟨db,yY,none⟩) 5 dc2,.slice uA N uc] 30)=W2:=⟨_,rfl⟩
 rw[hW2];have hbW:Below w2.heap.size w2 W2:=by rw[<- hW2];exact ae _ _
 have hRW:ak W2 w2.heap.size 30 #[.slice (some ⟨db,yY,none⟩) 5 dc2,.slice uA N uc]:=by rw[<- hW2];exact ak.new _ _ _
 rw[hrb]at hRW;have HRW:=kH hRW;have zb:=kH hbW;clear hbW hRW hW2;refine(yJ.out W2).mono ?_;rintro e3 w3 htd;obtain⟨A2,c2,DA2,dc3,rfl,hcap2,hk2,hod2,hb3⟩:=htd.at_;obtain⟨m0,y0,b0,f0,q0,-,-,-,-,-,YC⟩:=gD t2 A2 c2;rw[YC];obtain⟨nd2,hnd2⟩:∃q,(iE (iL (ByteArray.mk #[105,102,32,97,32,123,32,118,97,114,32,98,32,61,32,99,59,32,100,32,61,32,98,59,32,125]).data.toList) p2.ds).length=q:=⟨_,rfl⟩
 rw[hnd2];have HNV2:=kH YC;have Hl:=kH hk2;have Hr:Hid (Below w1.heap.size w1 w3):=kH ((HB2.out.trans (zb.out.mono HB2.out.size)).trans (hb3.mono (aac HB2.out.size zb.out.size)));have Jn:Hid (Below w2.heap.size w2 w3):=kH (zb.out.trans (hb3.mono zb.out.size));have HR3:=kH (HRW.out.below hb3 HRW.out.lt);clear htd hod2 hb3 hcap2 hk2 YC hnd2;go_wp2_with fail
 obtain⟨sb,hsb⟩:∃q,w3.heap.size=q:=⟨_,rfl⟩
 obtain⟨W3,hW3⟩:∃W3,w3.alloc (.cells #[.int .i64 m0,.string y0,.int .i64 b0,.int .i64 f0,.slice A2 q0 c2] 24)=W3:=⟨_,rfl⟩
 rw[hW3];have hbW:Below w3.heap.size w3 W3:=by rw[<- hW3];exact ae _ _
 have hSW:ak W3 w3.heap.size 24 #[.int .i64 m0,.string y0,.int .i64 b0,.int .i64 f0,.slice A2 q0 c2]:=by rw[<- hW3];exact ak.new _ _ _
 rw[hsb]at hSW;have HSW:=kH hSW;have Vr:=kH hbW;have NG:Hid (Below w2.heap.size w2 W3):=kH (Jn.out.trans (hbW.mono Jn.out.size));have Vp:=kH ((Vq.out.below Jn.out Vq.out.lt).below hbW (Vq.out.below Jn.out Vq.out.lt).lt);have Vm:=kH (HR3.out.below hbW HR3.out.lt);have oZ:Hid (Below w1.heap.size w1 W3):=kH (Hr.out.trans (hbW.mono Hr.out.size))
 have gz:∀w':World,Below W3.heap.size W3 w'->(Below W3.heap.size W3 w'/\w'.cell? ⟨rb,0,none⟩=some (.slice (some ⟨db,yY,none⟩) 5 dc2)/\w'.cell? ⟨rb,1,none⟩=some (.slice uA N uc)/\w'.cell? ⟨db,yY+9,none⟩=some (.string yn)/\w'.cell? ⟨db,yY+16,none⟩=some (.int .i64 3)/\w'.cell? ⟨nb,0,none⟩=some (.int .i64 k0)/\w'.cell? ⟨nb,1,none⟩=some (.string x0)/\w'.cell? ⟨nb,2,none⟩=some (.int .i64 a0)/\w'.cell? ⟨nb,3,none⟩=some (.int .i64 z0)/\w'.cell? ⟨nb,4,none⟩=some (.slice A n0 c)):=fun w' hb=>by
  have b1:=Vp.out.below hb Vp.out.lt;have b2:=Vm.out.below hb Vm.out.lt;have hbz:Below w2.heap.size w2 w':=NG.out.trans (hb.mono NG.out.size);exact⟨hb,b2.cell 0,b2.cell 1,(hbz.cell (p:=⟨db,yY+9,none⟩) ug.out.2.2).trans ug.out.1,(hbz.cell (p:=⟨db,yY+16,none⟩) ug.out.2.2).trans ug.out.2.1,b1.cell 0,b1.cell 1,b1.cell 2,b1.cell 3,b1.cell 4⟩
 have gm:=kH gz;have hcnt:=fun W (hb:Below W3.heap.size W3 W)=>Dy (ai t) t A c W (aab _) (by have:=Em.out;omega) (aK.mono (aac oZ.out.size hb.size) _ _ _ (aK.below (oZ.out.trans (hb.mono oZ.out.size)) (aab _) _ _ _ HK.out))
 rw[Bl.out,QH.out]at hcnt;have HCNT:=kH hcnt;clear hbW hSW gz hcnt hW3;refine lI (fun w'=>Below W3.heap.size W3 w'/\w'.cell? ⟨rb,0,none⟩=some (.slice (some ⟨db,yY,none⟩) 5 dc2)/\w'.cell? ⟨rb,1,none⟩=some (.slice uA N uc)/\w'.cell? ⟨db,yY+9,none⟩=some (.string yn)/\w'.cell? ⟨db,yY+16,none⟩=some (.int .i64 3)/\w'.cell? ⟨nb,0,none⟩=some (.int .i64 k0)/\w'.cell? ⟨nb,1,none⟩=some (.string x0)/\w'.cell? ⟨nb,2,none⟩=some (.int .i64 a0)/\w'.cell? ⟨nb,3,none⟩=some (.int .i64 z0)/\w'.cell? ⟨nb,4,none⟩=some (.slice A n0 c)) [] [true,true,true,true,true,true,true,true,true,true,true,true,true,true,true,true,true,true,true,true,true,true,true,true,true,true,true,true,true,true,true,true,true,true,false,true,true] (by kernel_rfl) (by kernel_rfl) rfl (by kernel_rfl) ?_;have hS0:=gm.out W3.drew ((Below.refl _ _).drew);iterate 34((first|(refine oF (by rfl) hS0 ?_)|(refine mV (by rfl) hS0 (by intro w' hSw;obtain⟨-,hs1,hs2,hs3,hs4,hs5,hs6,hs7,jh,tL⟩:=hSw;go_simp;rfl) ?_));simp only[Act.put,sA,sZ,sC])
 refine vH (by rfl) (by go_simp) ((HCNT.out _ hS0.1).mono ?_);rintro e5 w5 ⟨rfl,hb5⟩;have hS1:=gm.out w5 (hS0.1.trans (hb5.mono hS0.1.size));refine⟨_,rfl,fun _=>hS1,?_⟩;iterate 2(simp only[Act.put,sA,sZ,sC];(first|(refine oF (by rfl) hS1 ?_)|(refine mV (by rfl) hS1 (by intro w' hSw;obtain⟨-,hs1,hs2,hs3,hs4,hs5,hs6,hs7,jh,tL⟩:=hSw;go_simp;rfl) ?_)))
 simp only[Act.put,sA,sZ,sC];refine qL ?_;have fT:Hid (Below w1.heap.size w1 w5):=kH (oZ.out.trans (hS1.1.mono oZ.out.size));have HB52:Hid (Below w2.heap.size w2 w5):=kH (NG.out.trans (hS1.1.mono NG.out.size));have HB53:Hid (Below w3.heap.size w3 w5):=kH (Vr.out.trans (hS1.1.mono Vr.out.size));have FM:=kH (Vp.out.below hS1.1 Vp.out.lt);have HRW5:=kH (Vm.out.below hS1.1 Vm.out.lt);have HSW5:=kH (HSW.out.below hS1.1 HSW.out.lt);have u0:=FM.out.cell 0;have u1:=FM.out.cell 1;have u2:=FM.out.cell 2;have u3:=FM.out.cell 3;have u4:=FM.out.cell 4;have lu:=FM.out.lt;have YD:=Ul (ai t) t A c w5 w5.heap.size (aab _) (aab _) (by have:=Em.out;omega) HCAP.out (aK.mono fT.out.size _ _ _ (aK.below fT.out (aab _) _ _ _ HK.out));rw[Bl.out]at YD;have HNOD:=kH YD;clear hS0 hS1 hb5 YD;go_wp2_with fail
 clear u0 u1 u2 u3 u4 lu;refine HNOD.out.mono ?_;rintro e6 w6 ⟨v6,n6,vals,rfl,uD,RU,hva,hb6⟩;obtain⟨A6,c6,hv6,-,-⟩:=RU.shape;subst hv6;have hn6N:n6=N:=by rw[uD,dz,QH.out]
 subst hn6N;have Nf:=kH RU;have HVA:=kH hva;have nZ:Hid (Below w1.heap.size w1 w6):=kH (fT.out.trans (hb6.mono fT.out.size));have HB62:Hid (Below w2.heap.size w2 w6):=kH (HB52.out.trans (hb6.mono HB52.out.size));have HB63:Hid (Below w3.heap.size w3 w6):=kH (HB53.out.trans (hb6.mono HB53.out.size));have HNW6:=kH (FM.out.below hb6 FM.out.lt);have HRW6:=kH (HRW5.out.below hb6 HRW5.out.lt);have HSW6:=kH (HSW5.out.below hb6 HSW5.out.lt);have HN6:=kH uD;clear RU hva hb6 uD HNOD;go_wp2_with fail
 go_loopg [68] n6 (fun gk s68 wr=> ∃k:Nat,s68= .int .i64 (k:Int)/\k+gk=n6/\Hid (Below w6.heap.size w6 wr))
 case atStart=>exact⟨0,rfl,by omega,kH (Below.refl _ _)⟩
 case round=>
  obtain⟨k,rfl,hk6,HB⟩:=hrel;have LG:=kH (HNW6.out.below HB.out HNW6.out.lt);have HRWr:=kH (HRW6.out.below HB.out HRW6.out.lt);have LD:=kH (HSW6.out.below HB.out HSW6.out.lt);by_cases hlt:k<n6
  ·have hlt':(k:Int)<(n6:Int):=by omega
   have hw:IntKind.i64.wrap ((k:Int)+1)=(k:Int)+1:=IntWalk.i64_in _ (by omega);obtain⟨x,hx⟩:∃x,(bL t)[k]? =some x:=⟨_,aaf (by rw[<- HN6.out];exact hlt)⟩
   obtain⟨cs,hT,hfl⟩:=lM.get HVA.out hx;obtain⟨A',c',hcs,-⟩:=hT.five;subst hcs;obtain⟨bk,off,cap,hv,-,-,-,hbk,hcell⟩:=(Nf.out.below HB.out (fun g hg=>(Nf.out.lt g hg).2)).form (by omega);simp only[Value.slice.injEq,true_and]at hv;obtain⟨rfl,rfl⟩:=hv;obtain⟨xk,hxk⟩:∃q,x.kind=q:=⟨_,rfl⟩
   obtain⟨xt,hxt⟩:∃q,x.text=q:=⟨_,rfl⟩
   obtain⟨xa,hxa⟩:∃q,x.at_=q:=⟨_,rfl⟩
   obtain⟨xz,hxz⟩:∃q,x.end_=q:=⟨_,rfl⟩
   obtain⟨xn,hxn⟩:∃q,x.kids.length=q:=⟨_,rfl⟩
   have hcs':∀q v,[Value.int .i64 xk,.string xt,.int .i64 xa,.int .i64 xz,.slice A' xn c'][q]? =some v->wr.cell? ⟨bk,off+k*5+q,none⟩=some v:=fun q v hq=>by
    have:=hcell _ _ (hfl q v (by rw[hxk,hxt,hxa,hxz,hxn];exact hq));rw[show off+(k*5+q)=off+k*5+q by omega]at this;exact this
   have t0:wr.cell? ⟨bk,off+k*5,none⟩=some (.int .i64 xk):=by simpa using hcs' 0 _ rfl
   have t1:wr.cell? ⟨bk,off+k*5+1,none⟩=some (.string xt):=by simpa using hcs' 1 _ rfl
   have t2':wr.cell? ⟨bk,off+k*5+2,none⟩=some (.int .i64 xa):=by simpa using hcs' 2 _ rfl
   have t3:wr.cell? ⟨bk,off+k*5+3,none⟩=some (.int .i64 xz):=by simpa using hcs' 3 _ rfl
   have t4:wr.cell? ⟨bk,off+k*5+4,none⟩=some (.slice A' xn c'):=by simpa using hcs' 4 _ rfl
   have hok:=JR HNOK.out hx;rw[Nat.zero_add]at hok;unfold OP at hok;rw[hxk,hxt,aad]at hok;have qy:Hid (Below w6.heap.size w6 (wr.alloc (.cells #[.int .i64 xk,.string xt,.int .i64 xa,.int .i64 xz,.slice A' xn c'] 24))):=kH (HB.out.trans ((ae wr _).mono HB.out.size));have Ah:=G9 t A c (k:Int) (wr.alloc (.cells #[.int .i64 xk,.string xt,.int .i64 xa,.int .i64 xz,.slice A' xn c'] 24)) (by have:=Em.out;omega) HCAP.out (aK.mono (aac nZ.out.size qy.out.size) _ _ _ (aK.below (nZ.out.trans (qy.out.mono nZ.out.size)) (aab _) _ _ _ HK.out));rw[Bl.out]at Ah;have QB:=kH Ah;have EY:nD t (k:Int)=(bG (cK t).bH (k:Int)).getD []:=by unfold nD;rw[if_pos LC.out]
   have p0:=LG.out.cell 0;have p1:=LG.out.cell 1;have p2':=LG.out.cell 2;have p3:=LG.out.cell 3;have p4:=LG.out.cell 4;have lp:=LG.out.lt;have r1:=HRWr.out.cell 1;have lr:=HRWr.out.lt;clear hx hT hfl hcell hxk hxt hxa hxz hxn hcs' Ah;by_cases hA:xk=20/\xt.toList=[120]
   ·obtain⟨rfl,Yu⟩:=hA
    have h1:=hok.1;rw[ByteArray.toList_eq]at Yu;rw[Yu]at h1;simp only[decide_true,beq_self_eq_true,Bool.and_self,Bool.not_true,Bool.false_or,aad,decide_eq_true_eq]at h1;rw[<- ByteArray.toList_eq]at Yu;have Xu:Hid (nD t (k:Int)=[1]):=kH (by rw[EY];exact h1.2);obtain⟨ub,uo,ucap,huv,-,-,-,hub,huc⟩:=(zl.out.below (HB62.out.trans (HB.out.mono HB62.out.size)) (fun g hg=>(zl.out.lt g hg).2)).form (by omega);simp only[Value.slice.injEq,true_and]at huv;obtain⟨rfl,rfl⟩:=huv;have cu:wr.cell? ⟨ub,uo+k,none⟩=some (.int .i64 1):=huc k _ (by unfold jN;rw[List.getElem?_map,h1.1];rfl);clear hok h1 EY huc;go_wp2_with fail
    refine QB.out.mono ?_;rintro e7 w7 ⟨v7,rfl,ze,dQ⟩;rw[show nD t (k:Int)=[1] from Xu.out]at ze;obtain⟨Av,cv,hv7,-,-⟩:=ze.shape;subst hv7;have xe:=kH ze;have gT:=kH dQ;clear ze dQ;go_wp2_with fail
    refine(Qy Av (some ⟨w7.heap.size,0,none⟩) 1 1 cv 1 [1] [1] _ (((xe.out.rowAt (cells:=iO) (l:=[1]) rfl (Ae _) (fun _ _=>rfl) rfl).below (ae _ _) (aab _)).mono (by simp)) (Yh 1 (by go_simp) (by simp)) rfl rfl (by omega)).mono ?_;rintro e8 w8 ⟨rfl,fJ⟩;have rH:Hid (Below w6.heap.size w6 w8):=kH ((qy.out.trans (gT.out.mono qy.out.size)).trans (((ae w7 _).trans (fJ.mono (by simp))).mono (aac qy.out.size gT.out.size)));have YT:=((((ak.new wr 24 #[.int .i64 20,.string xt,.int .i64 xa,.int .i64 xz,.slice A' xn c']).below gT.out (by simp)).alloc (.cells #[.int .i64 1] 3)).below fJ (by have:=gT.out.size;simp at this⊢;omega))
    have x8:=YT.cell 0;have lx8:=YT.lt;simp only[decide_true];clear fJ YT;go_wp2_with fail
    go_roundg (gk - 1)
    case measure=>omega
    case rel=>exact⟨k+1,by simp,by omega,rH⟩
   ·by_cases hBk:xk=19
    ·subst hBk
     have h1:=hok.2;simp only[decide_true,Bool.not_true,Bool.false_or,decide_eq_true_eq]at h1;have Xu:Hid (nD t (k:Int)=[1,2]):=kH (by rw[EY];exact h1);clear hok h1 EY hA;go_wp2_with fail
     refine QB.out.mono ?_;rintro e7 w7 ⟨v7,rfl,ze,dQ⟩;rw[show nD t (k:Int)=[1,2] from Xu.out]at ze;obtain⟨Av,cv,hv7,-,-⟩:=ze.shape;subst hv7;have xe:=kH ze;have gT:=kH dQ;clear ze dQ;go_wp2_with fail
     refine(Qy Av (some ⟨w7.heap.size,0,none⟩) 2 2 cv 2 [1,2] [1,2] _ (((xe.out.rowAt (cells:=iO) (l:=[1,2]) rfl (Ae _) (fun _ _=>rfl) rfl).below (ae _ _) (aab _)).mono (by simp)) (Yg 1 2 (by go_simp) (by go_simp) (by simp)) rfl rfl (by omega)).mono ?_;rintro e8 w8 ⟨rfl,fJ⟩;have rH:Hid (Below w6.heap.size w6 w8):=kH ((qy.out.trans (gT.out.mono qy.out.size)).trans (((ae w7 _).trans (fJ.mono (by simp))).mono (aac qy.out.size gT.out.size)));simp only[decide_true];clear fJ;go_wp2_with fail
     go_roundg (gk - 1)
     case measure=>omega
     case rel=>exact⟨k+1,by simp,by omega,rH⟩
    ·have hf19:(xk==19)=false:=by simp[hBk]
     clear hok EY;have HBC:Hid (Below w6.heap.size w6 (wr.alloc (.cells #[.int .i64 xk,.string xt,.int .i64 xa,.int .i64 xz,.slice A' xn c'] 24))):=qy;by_cases h20:xk=20
     ·have hx2:(xt.toList==[120])=false:=by
       rw[beq_eq_false_iff_ne];exact fun h=>hA ⟨h20,h⟩
      have hx3:¬xt.toList=[120]:=fun h=>hA ⟨h20,h⟩
      have Pn:(xk==20)=true:=by simp[h20]
      clear hA h20 hBk;go_wp2_with fail
      go_roundg (gk - 1)
      case measure=>omega
      case rel=>exact⟨k+1,by simp,by omega,HBC⟩
     ·have Pn:(xk==20)=false:=by simp[h20]
      clear hA h20 hBk;go_wp2_with fail
      go_roundg (gk - 1)
      case measure=>omega
      case rel=>exact⟨k+1,by simp,by omega,HBC⟩
  ·have hkn:k=n6:=by omega
   subst hkn;have hge:¬((k:Int)<(k:Int)):=by omega
   have s0:=LD.out.cell 0;have s1:=LD.out.cell 1;have s2:=LD.out.cell 2;have s3:=LD.out.cell 3;have s4:=LD.out.cell 4;have ls:=LD.out.lt;obtain⟨hfr,hcn2⟩:=Rs HS2.out;have YY:Below w3.heap.size w3 wr:=HB63.out.trans (HB.out.mono HB63.out.size);have hfree:=ZI t2 A2 c2 wr (by omega) (aK.mono YY.size _ _ _ (aK.below YY (aab _) _ _ _ Hl.out));rw[HNV2.out,hfr]at hfree;have HFR:=kH hfree;clear hfree hfr YY hcn2;go_wp2_with fail
   refine HFR.out.mono ?_;rintro e7 w7 ⟨v7,rfl,ze,dQ⟩;obtain⟨Av,cv,hv7,-,-⟩:=ze.shape;subst hv7;have xe:=kH ze;have gT:Hid (Below w1.heap.size w1 w7):=kH ((nZ.out.trans (HB.out.mono nZ.out.size)).trans (dQ.mono (aac nZ.out.size HB.out.size)));clear ze dQ s0 s1 s2 s3 s4 ls;go_wp2_with fail
   refine(Xn Av (some ⟨w7.heap.size,0,none⟩) 3 3 cv 3 [⟨#[97]⟩,⟨#[99]⟩,⟨#[100]⟩] [⟨#[97]⟩,⟨#[99]⟩,⟨#[100]⟩] _ (((xe.out.rowAt (cells:=fP) (l:=[⟨#[97]⟩,⟨#[99]⟩,⟨#[100]⟩]) rfl rfl (fun _ _=>rfl) rfl).below (ae _ _) (aab _)).mono (by simp)) (TD _ _ _ (by go_simp) (by go_simp) (by go_simp) (by simp)) rfl rfl (by omega)).mono ?_;rintro e8 w8 ⟨rfl,fJ⟩;have rH:Hid (Below w.heap.size w w8):=kH (HB1.out.trans ((gT.out.trans (((ae w7 _).trans (fJ.mono (by simp))).mono gT.out.size)).mono HB1.out.size));simp only[decide_true];clear fJ;go_wp2_with fail
   go_ret
   exact⟨rfl,rH.out⟩
end Go.Proofs.YtoepemlnlpamlaaGreat
