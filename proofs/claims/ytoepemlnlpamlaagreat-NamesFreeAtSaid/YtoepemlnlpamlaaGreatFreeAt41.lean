/- The law NamesFreeAt holds: for every text and every number the law returns true, and its arguments read as before. No condition. Part 41: Ints Awk1 Awk2. -/
import Derived.Test.YtoepemlnlpamlaaGreatFreeAt15
import Derived.Test.YtoepemlnlpamlaaGreatFreeAt19
import Derived.Test.YtoepemlnlpamlaaGreatFreeAt40
namespace Go.Proofs.YtoepemlnlpamlaaGreat
set_option maxRecDepth 100000
set_option maxHeartbeats 4000000
open Go.RowKit
theorem take_ext {α:Type} {l1 l2:List α} {k:Nat} {x y:α} (h:l1.take k=l2.take k) (h1:l1[k]? = some x) (h2:l2[k]? = some y) (hxy:x=y):l1.take (k+1)=l2.take (k+1):=by
 rw[List.take_add_one,List.take_add_one,h,h1,h2,hxy]
theorem Ints_any (A1 A2:Option Addr) (n1 n2 c1 c2:Nat) (l1 l2:List Int) (w:World) (h1:RowAt 1 intCells w w.heap.size A1 l1) (h2:RowAt 1 intCells w w.heap.size A2 l2) (hl1:l1.length=n1) (hl2:l2.length=n2) (hn:n1≤1000000) :
 Calls Tryz.prog 16 #[.slice A1 n1 c1,.slice A2 n2 c2] w fun e w'=>e = .returned (.bool (decide (l1=l2)))∧Below w.heap.size w w':=by
 by_cases hne:n1=n2
 ·subst hne
  have H1:=kH h1;have H2:=kH h2;have HL1:=kH hl1;have HL2:=kH hl2;clear h1 h2 hl1 hl2
  go_enter Tryz.func16,Tryz.ntmps16
  go_wp2_with fail
  go_loopg [5] n1 (fun gk s wr => ∃ k:Nat,k+gk=n1∧s = .int .i64 k∧Below w.heap.size w wr∧l1.take k=l2.take k)
  case atStart=>exact⟨0,by omega,rfl,Below.refl _ _,rfl⟩
  case round =>
   obtain⟨k,hk,rfl,hB,ht⟩:=hrel
   have hk':k≤n1:=by omega
   have HK:=kH hk;have HT:=kH ht;clear hk ht
   by_cases hlt:k < n1
   ·have e1:l1[k]? = some (l1[k]'(by rw[HL1.out];exact hlt)):=List.getElem?_eq_getElem _
    have e2:l2[k]? = some (l2[k]'(by rw[HL2.out];exact hlt)):=List.getElem?_eq_getElem _
    generalize l1[k]'(by rw[HL1.out];exact hlt)=x at e1
    generalize l2[k]'(by rw[HL2.out];exact hlt)=y at e2
    obtain⟨b1,o1,hA1,hb1,hc1⟩:=(H1.out.below hB (Nat.le_refl _)) k _ e1;obtain⟨b2,o2,hA2,hb2,hc2⟩:=(H2.out.below hB (Nat.le_refl _)) k _ e2;subst hA1;subst hA2
    have hx:wr.cell? ⟨b1,o1+k,none⟩=some (.int .i64 x):=by simpa using hc1 0 _ rfl
    have hy:wr.cell? ⟨b2,o2+k,none⟩=some (.int .i64 y):=by simpa using hc2 0 _ rfl
    have E1:=kH e1;have E2:=kH e2
    have hkn:(k:Int) < (n1:Int):=by omega
    clear hc1 hc2 e1 e2
    by_cases hxy:x=y
    ·subst hxy
     go_wp2_with fail
     go_quiet (fail)
     go_wp2_with fail
     go_roundg (gk - 1)
     case measure=>have:=HK.out;omega
     case rel=>exact⟨k+1,by have:=HK.out;omega,by go_num,by (repeat (first | exact Below.refl _ _ | assumption | refine Below.trans ?_ (Below.mono (by assumption) (by first | omega | (simp;done) | (simp;omega))) | refine Below.alloc ?_ (by first | omega | (simp;done) | (simp;omega)) _ | refine Below.setCell ?_ (by first | omega | (simp;done) | (simp;omega)) _ | refine Below.drew ?_ | refine below_drewN ?_ _)),take_ext HT.out E1.out E2.out rfl⟩
    ·have hxb:(x != y)=true:=by simpa using hxy
     have hres:decide (l1=l2)=false:=by
      refine decide_eq_false fun e=>?_
      have:=E1.out;rw[e,E2.out]at this
      cases this
      exact hxy rfl
     have HRES:=kH hres;clear hres hxy
     go_wp2_with fail
     go_quiet (fail)
     go_wp2_with fail
     go_ret
     rw[HRES.out];exact⟨rfl,by (repeat (first | exact Below.refl _ _ | assumption | refine Below.trans ?_ (Below.mono (by assumption) (by first | omega | (simp;done) | (simp;omega))) | refine Below.alloc ?_ (by first | omega | (simp;done) | (simp;omega)) _ | refine Below.setCell ?_ (by first | omega | (simp;done) | (simp;omega)) _ | refine Below.drew ?_ | refine below_drewN ?_ _))⟩
   ·have hres:decide (l1=l2)=true:=by
     have h:=HT.out;rw[List.take_of_length_le (by rw[HL1.out];omega),List.take_of_length_le (by rw[HL2.out];omega)]at h;exact decide_eq_true h
    have HRES:=kH hres;clear hres
    go_wp2_with fail
    go_ret
    rw[HRES.out];exact⟨rfl,by (repeat (first | exact Below.refl _ _ | assumption | refine Below.trans ?_ (Below.mono (by assumption) (by first | omega | (simp;done) | (simp;omega))) | refine Below.alloc ?_ (by first | omega | (simp;done) | (simp;omega)) _ | refine Below.setCell ?_ (by first | omega | (simp;done) | (simp;omega)) _ | refine Below.drew ?_ | refine below_drewN ?_ _))⟩
 ·have hb:(n1 != n2)=true:=by simpa using hne
  have hres:decide (l1=l2)=false:=decide_eq_false (fun e=>hne (by rw[← hl1,← hl2,e]));have HRES:=kH hres
  have hb2:((n1:Int) !=(n2:Int))=true:=by simp;omega
  clear hres h1 h2 hl1 hl2
  go_enter Tryz.func16,Tryz.ntmps16
  go_wp2_with fail
  go_ret
  rw[HRES.out];exact⟨rfl,by (repeat (first | exact Below.refl _ _ | assumption | refine Below.trans ?_ (Below.mono (by assumption) (by first | omega | (simp;done) | (simp;omega))) | refine Below.alloc ?_ (by first | omega | (simp;done) | (simp;omega)) _ | refine Below.setCell ?_ (by first | omega | (simp;done) | (simp;omega)) _ | refine Below.drew ?_ | refine below_drewN ?_ _))⟩
theorem Texts_any (A1 A2:Option Addr) (n1 n2 c1 c2:Nat) (l1 l2:List ByteArray) (w:World) (h1:RowAt 1 strCells w w.heap.size A1 l1) (h2:RowAt 1 strCells w w.heap.size A2 l2) (hl1:l1.length=n1) (hl2:l2.length=n2) (hn:n1≤1000000) :
 Calls Tryz.prog 19 #[.slice A1 n1 c1,.slice A2 n2 c2] w fun e w'=>e = .returned (.bool (decide (l1=l2)))∧Below w.heap.size w w':=by
 by_cases hne:n1=n2
 ·subst hne
  have H1:=kH h1;have H2:=kH h2;have HL1:=kH hl1;have HL2:=kH hl2;clear h1 h2 hl1 hl2
  go_enter Tryz.func19,Tryz.ntmps19
  go_wp2_with fail
  go_loopg [5] n1 (fun gk s wr => ∃ k:Nat,k+gk=n1∧s = .int .i64 k∧Below w.heap.size w wr∧l1.take k=l2.take k)
  case atStart=>exact⟨0,by omega,rfl,Below.refl _ _,rfl⟩
  case round =>
   obtain⟨k,hk,rfl,hB,ht⟩:=hrel
   have hk':k≤n1:=by omega
   have HK:=kH hk;have HT:=kH ht;clear hk ht
   by_cases hlt:k < n1
   ·have e1:l1[k]? = some (l1[k]'(by rw[HL1.out];exact hlt)):=List.getElem?_eq_getElem _
    have e2:l2[k]? = some (l2[k]'(by rw[HL2.out];exact hlt)):=List.getElem?_eq_getElem _
    generalize l1[k]'(by rw[HL1.out];exact hlt)=x at e1
    generalize l2[k]'(by rw[HL2.out];exact hlt)=y at e2
    obtain⟨b1,o1,hA1,hb1,hc1⟩:=(H1.out.below hB (Nat.le_refl _)) k _ e1;obtain⟨b2,o2,hA2,hb2,hc2⟩:=(H2.out.below hB (Nat.le_refl _)) k _ e2;subst hA1;subst hA2
    have hx:wr.cell? ⟨b1,o1+k,none⟩=some (.string x):=by simpa using hc1 0 _ rfl
    have hy:wr.cell? ⟨b2,o2+k,none⟩=some (.string y):=by simpa using hc2 0 _ rfl
    have E1:=kH e1;have E2:=kH e2
    have hkn:(k:Int) < (n1:Int):=by omega
    clear hc1 hc2 e1 e2
    by_cases hxy:x=y
    ·subst hxy
     go_wp2_with fail
     go_quiet (fail)
     go_wp2_with fail
     go_roundg (gk - 1)
     case measure=>have:=HK.out;omega
     case rel=>exact⟨k+1,by have:=HK.out;omega,by go_num,by (repeat (first | exact Below.refl _ _ | assumption | refine Below.trans ?_ (Below.mono (by assumption) (by first | omega | (simp;done) | (simp;omega))) | refine Below.alloc ?_ (by first | omega | (simp;done) | (simp;omega)) _ | refine Below.setCell ?_ (by first | omega | (simp;done) | (simp;omega)) _ | refine Below.drew ?_ | refine below_drewN ?_ _)),take_ext HT.out E1.out E2.out rfl⟩
    ·have hxb:¬ x.toList=y.toList:=fun h=>hxy (bytes_eq (by rw[← ByteArray.toList_eq,← ByteArray.toList_eq,h]))
     have hxc:(x.toList == y.toList)=false:=by rw[beq_eq_false_iff_ne];exact hxb
     have hres:decide (l1=l2)=false:=by
      refine decide_eq_false fun e=>?_
      have:=E1.out;rw[e,E2.out]at this
      cases this
      exact hxy rfl
     have HRES:=kH hres;clear hres hxy
     go_wp2_with fail
     go_quiet (fail)
     go_wp2_with fail
     go_ret
     rw[HRES.out];exact⟨rfl,by (repeat (first | exact Below.refl _ _ | assumption | refine Below.trans ?_ (Below.mono (by assumption) (by first | omega | (simp;done) | (simp;omega))) | refine Below.alloc ?_ (by first | omega | (simp;done) | (simp;omega)) _ | refine Below.setCell ?_ (by first | omega | (simp;done) | (simp;omega)) _ | refine Below.drew ?_ | refine below_drewN ?_ _))⟩
   ·have hres:decide (l1=l2)=true:=by
     have h:=HT.out;rw[List.take_of_length_le (by rw[HL1.out];omega),List.take_of_length_le (by rw[HL2.out];omega)]at h;exact decide_eq_true h
    have HRES:=kH hres;clear hres
    go_wp2_with fail
    go_ret
    rw[HRES.out];exact⟨rfl,by (repeat (first | exact Below.refl _ _ | assumption | refine Below.trans ?_ (Below.mono (by assumption) (by first | omega | (simp;done) | (simp;omega))) | refine Below.alloc ?_ (by first | omega | (simp;done) | (simp;omega)) _ | refine Below.setCell ?_ (by first | omega | (simp;done) | (simp;omega)) _ | refine Below.drew ?_ | refine below_drewN ?_ _))⟩
 ·have hb:(n1 != n2)=true:=by simpa using hne
  have hres:decide (l1=l2)=false:=decide_eq_false (fun e=>hne (by rw[← hl1,← hl2,e]));have HRES:=kH hres
  have hb2:((n1:Int) !=(n2:Int))=true:=by simp;omega
  clear hres h1 h2 hl1 hl2
  go_enter Tryz.func19,Tryz.ntmps19
  go_wp2_with fail
  go_ret
  rw[HRES.out];exact⟨rfl,by (repeat (first | exact Below.refl _ _ | assumption | refine Below.trans ?_ (Below.mono (by assumption) (by first | omega | (simp;done) | (simp;omega))) | refine Below.alloc ?_ (by first | omega | (simp;done) | (simp;omega)) _ | refine Below.setCell ?_ (by first | omega | (simp;done) | (simp;omega)) _ | refine Below.drew ?_ | refine below_drewN ?_ _))⟩
end Go.Proofs.YtoepemlnlpamlaaGreat
namespace Go.Proofs.YtoepemlnlpamlaaGreat
set_option maxRecDepth 100000
set_option maxHeartbeats 4000000
def text1:Bytes:=[112,114,111,99,32,102,40,120,41,123,118,97,114,32,121,61,120,59,103,40,121,41,59,125,112,114,111,99,32,103,40,122,41,123,125]
def text2:Bytes:=[105,102,32,97,32,123,32,118,97,114,32,98,32,61,32,99,59,32,100,32,61,32,98,59,32,125]
def insK (x:Int):List Int→List Int
 | []=>[x]
 | y :: l=>if x≤y then x :: y :: l else y :: insK x l
def sortK:List Int→List Int
 | []=>[]
 | x :: l=>insK x (sortK l)
theorem insK_perm (x:Int):∀ l:List Int,(insK x l).Perm (x :: l)
 | []=>List.Perm.refl _
 | y :: l=>by
  rw[insK];split
  ·exact List.Perm.refl _
  ·exact((insK_perm x l).cons y).trans (List.Perm.swap x y l)
theorem insK_sorted (x:Int):∀ l:List Int,l.Pairwise (· ≤ ·)→(insK x l).Pairwise (· ≤ ·)
 | [],_=>List.pairwise_singleton _ _
 | y :: l,h=>by
  rw[List.pairwise_cons]at h;rw[insK];split
  ·rename_i hxy
   rw[List.pairwise_cons];refine⟨fun z hz=>?_,List.pairwise_cons.2 h⟩
   rcases List.mem_cons.1 hz with rfl | hz
   ·exact hxy
   ·exact Int.le_trans hxy (h.1 z hz)
  ·rename_i hxy
   rw[List.pairwise_cons];refine⟨fun z hz=>?_,insK_sorted x l h.2⟩
   rcases List.mem_cons.1 ((insK_perm x l).mem_iff.1 hz) with rfl | hz
   ·omega
   ·exact h.1 z hz
theorem sortK_perm:∀ l:List Int,(sortK l).Perm l
 | []=>List.Perm.refl _
 | x :: l=>(insK_perm x _).trans ((sortK_perm l).cons x)
theorem sortK_sorted:∀ l:List Int,(sortK l).Pairwise (· ≤ ·)
 | []=>List.Pairwise.nil
 | x :: l=>insK_sorted x _ (sortK_sorted l)
theorem sortK_eq (l:List Int):sortK l=sortI l:=by
 rw[← sort_perm (sortK_perm l)];refine(List.mergeSort_of_pairwise ?_).symm
 exact(sortK_sorted l).imp fun h=>by simpa using h
mutual
def visitN (G:Glob) (inside:Bool):Tree→Scope→RS→RS × Scope
 | .node k x a e kids,s,r0 =>
  let t:Tree:=.node k x a e kids
  let n:=r0.next
  let r:RS:={ r0 with next:=n+1,vis:=if inside then setL r0.vis (n:Int) (sortK (allS s)) else r0.vis }
  let tq:=(layM G.globals x).getD 0
  if k=3 then visitsN G inside kids 0 kids.length s { declareM r 0 n t (decide (tq≠n)) with owner:=n }
  else if k=4 then visitsN G inside kids 0 kids.length s (declareM r 1 n t (decide ((layM G.fields x).getD 0≠n)))
  else if k=5 then
   let r1:RS:={ declareM r 2 n t (decide (tq≠n)) with owner:=n }
   let q:=visitsN G false kids 0 2 [[]] r1
   ((visitsN G true kids 2 1 ([] :: q.2) q.1).1,s)
  else if k=7∨k=8 then
   let q:=variableM G r 3 n t s
   visitsN G inside kids 0 kids.length q.2 q.1
  else if k=11 then
   let q:=visitsN G inside kids 0 kids.length ([] :: s) r
   (q.1,q.2.tail)
  else if k=12 then
   let q:=variableM G r 4 n t ([] :: s)
   let q2:=visitsN G inside kids 0 2 s q.1
   (q2.1,addTop q2.2 (q.2.headD []))
  else if k=16 then
   let q:=variableM G r 5 n t ([] :: s)
   let q2:=visitsN G inside kids 0 2 s q.1
   let q3:=visitsN G inside kids 2 1 (q.2.headD [] :: q2.2) q2.1
   (q3.1,q3.2.tail)
  else
   let r1:=if k=20 then useM r n t (findS s x)
    else if k=22 then useM r n t (layM G.fields x)
    else if k=27 then useM r n t (layM G.globals x)
    else if k=19 then useM r n t ((layM G.globals x).filter fun j=>decide (kindAt G j=5))
    else if k=9∧isScalar x=false then useM r n t ((layM G.globals x).filter fun j=>decide (kindAt G j=3))
    else r
   visitsN G inside kids 0 kids.length s r1
def visitsN (G:Glob) (inside:Bool):List Tree→Nat→Nat→Scope→RS→RS × Scope
 | [],_,_,s,r=>(r,s)
 | _ :: ts,from_+1,n,s,r=>visitsN G inside ts from_ n s r
 | _ :: _,0,0,s,r=>(r,s)
 | t :: ts,0,n+1,s,r =>
  let q:=visitN G inside t s r
  visitsN G inside ts 0 n q.2 q.1
end
theorem visitN_eqn (G:Glob) (i:Bool) (k:Int) (x:ByteArray) (a e:Int) (kids:List Tree) (s:Scope) (r:RS):visitN G i (.node k x a e kids) s r =
 if k=3 then visitsN G i kids 0 kids.length s { declareM (entM r i (sortK (allS s))) 0 r.next (.node k x a e kids) (decide ((layM G.globals x).getD 0≠(r.next:Int))) with owner:=(r.next:Int) }
 else if k=4 then visitsN G i kids 0 kids.length s (declareM (entM r i (sortK (allS s))) 1 r.next (.node k x a e kids) (decide ((layM G.fields x).getD 0≠(r.next:Int))))
 else if k=5 then ((visitsN G true kids 2 1 ([] ::(visitsN G false kids 0 2 [[]] { declareM (entM r i (sortK (allS s))) 2 r.next (.node k x a e kids) (decide ((layM G.globals x).getD 0≠(r.next:Int))) with owner:=(r.next:Int) }).2) (visitsN G false kids 0 2 [[]] { declareM (entM r i (sortK (allS s))) 2 r.next (.node k x a e kids) (decide ((layM G.globals x).getD 0≠(r.next:Int))) with owner:=(r.next:Int) }).1).1,s)
 else if k=7∨k=8 then visitsN G i kids 0 kids.length (variableM G (entM r i (sortK (allS s))) 3 r.next (.node k x a e kids) s).2 (variableM G (entM r i (sortK (allS s))) 3 r.next (.node k x a e kids) s).1
 else if k=11 then ((visitsN G i kids 0 kids.length ([] :: s) (entM r i (sortK (allS s)))).1,(visitsN G i kids 0 kids.length ([] :: s) (entM r i (sortK (allS s)))).2.tail)
 else if k=12 then ((visitsN G i kids 0 2 s (variableM G (entM r i (sortK (allS s))) 4 r.next (.node k x a e kids) ([] :: s)).1).1,addTop (visitsN G i kids 0 2 s (variableM G (entM r i (sortK (allS s))) 4 r.next (.node k x a e kids) ([] :: s)).1).2 ((variableM G (entM r i (sortK (allS s))) 4 r.next (.node k x a e kids) ([] :: s)).2.headD []))
 else if k=16 then ((visitsN G i kids 2 1 ((variableM G (entM r i (sortK (allS s))) 5 r.next (.node k x a e kids) ([] :: s)).2.headD [] ::(visitsN G i kids 0 2 s (variableM G (entM r i (sortK (allS s))) 5 r.next (.node k x a e kids) ([] :: s)).1).2) (visitsN G i kids 0 2 s (variableM G (entM r i (sortK (allS s))) 5 r.next (.node k x a e kids) ([] :: s)).1).1).1,
  (visitsN G i kids 2 1 ((variableM G (entM r i (sortK (allS s))) 5 r.next (.node k x a e kids) ([] :: s)).2.headD [] ::(visitsN G i kids 0 2 s (variableM G (entM r i (sortK (allS s))) 5 r.next (.node k x a e kids) ([] :: s)).1).2) (visitsN G i kids 0 2 s (variableM G (entM r i (sortK (allS s))) 5 r.next (.node k x a e kids) ([] :: s)).1).1).2.tail)
 else visitsN G i kids 0 kids.length s (useN G s r (entM r i (sortK (allS s))) (.node k x a e kids)):=by
 rw[visitN];rfl
mutual
theorem visitN_eq (G:Glob):∀ (t:Tree) (i:Bool) (s:Scope) (r:RS),visitN G i t s r=visitM G i t s r
 | .node k x a e kids,i,s,r=>by
  have ih:∀ i f n s r,visitsN G i kids f n s r=visitsM G i kids f n s r:=fun i f n s r=>visitsN_eq G kids i f n s r
  rw[visitM_eq,visitN_eqn];simp only[ih,sortK_eq]
theorem visitsN_eq (G:Glob):∀ (ts:List Tree) (i:Bool) (f n:Nat) (s:Scope) (r:RS),visitsN G i ts f n s r=visitsM G i ts f n s r
 | [],i,f,n,s,r=>by rw[visitsN,visitsM]
 | t :: ts,i,f+1,n,s,r=>by rw[visitsN,visitsM];exact visitsN_eq G ts i f n s r
 | t :: ts,i,0,0,s,r=>by rw[visitsN,visitsM]
 | t :: ts,i,0,n+1,s,r=>by
  rw[visitsN,visitsM];rw[visitN_eq G t i s r];exact visitsN_eq G ts i 0 n _ _
end
def resolveN (t:Tree):RS :=
 let r:=(visitN (collectM t) false t [] ⟨[],List.replicate (countM t) (-1),[],[],0,0⟩).1
 { r with uses:=r.uses.map (toIdx r.ds),vis:=r.vis.map fun x=>(x.1,x.2.map (toIdx r.ds)) }
theorem resolveN_eq (t:Tree):resolveN t=resolveM t:=by
 unfold resolveN resolveM;rw[visitN_eq]
def nodeOk (r:RS) (k:Nat) (x:Tree):Bool :=
 (!(decide (x.kind=20) && (x.text.data.toList == [120])) || (decide (r.uses[k]? = some 1) && decide ((lookL r.vis (k:Int)).getD [] = [1]))) && (!decide (x.kind=19) || decide ((lookL r.vis (k:Int)).getD [] = [1,2]))
def nodesOk (r:RS):List Tree→Nat→Bool
 | [],_=>true
 | x :: l,k=>nodeOk r k x && nodesOk r l (k+1)
def check1 (t:Tree) (ds:List Dg):Bool :=
 let r:=resolveN t
 decide (ds.length=0) && validM t && decide (r.probs.length=0) && decide (r.ds.length=5) && decide ((r.ds[2]?.map (·.name.data.toList))=some [121]) && decide ((r.ds[4]?.map (·.kind))=some 3) && decide (r.uses.length=countM t) && decide (countM t≤100) && nodesOk r (nodesM t) 0
def check2 (t:Tree):Bool:=decide ((freeM t [] []).map (·.data.toList) = [[97],[99],[100]]) && decide (countM t≤100)
theorem parse1:((parseM 40 text1).map fun x=>check1 x.1 x.2)=some true:=by kernel_rfl
def check3:Option (List Tree × PS)→Bool
 | some ([x],p)=>check2 x && decide (kindM (startL text2) p=5)
 | _=>false
theorem parse2:check3 (parM text2 (startL text2) 30 .stmt ⟨0,0,[]⟩)=true:=by kernel_rfl
theorem parse2':∃ x p,parM text2 (startL text2) 30 .stmt ⟨0,0,[]⟩=some ([x],p)∧check2 x=true∧kindM (startL text2) p=5:=by
 have h:=parse2;unfold check3 at h;split at h
 ·rename_i x p e
  rw[Bool.and_eq_true,decide_eq_true_eq]at h;exact⟨x,p,e,h.1,h.2⟩
 ·cases h
theorem parseM_mono (f:Nat) (s:Bytes) (y:Tree × List Dg) (h:parseM f s=some y):parseM (f+1) s=some y:=by
 unfold parseM at h ⊢
 cases hp:progL s (startL s) f ⟨0,0,[]⟩ [] with
 | none=>rw[hp]at h;cases h
 | some q =>
  rw[progL_mono f _ _ q hp];rw[hp]at h;exact h
theorem parse1' {f:Nat} {t:Tree} {ds:List Dg} (h:parseM f text1=some (t,ds)):check1 t ds=true:=by
 have h1:=parse1
 cases hp:parseM 40 text1 with
 | none=>rw[hp]at h1;cases h1
 | some y =>
  have e1:=lift_mono (F:=fun f=>parseM f text1) (fun f y h=>parseM_mono f _ y h) (Nat.le_max_left f 40) h;have e2:=lift_mono (F:=fun f=>parseM f text1) (fun f y h=>parseM_mono f _ y h) (Nat.le_max_right f 40) hp;rw[e1]at e2;rw[hp]at h1
  cases e2
  simpa using h1
theorem nodesOk_at {r:RS}:∀ {l:List Tree} {k:Nat},nodesOk r l k=true→∀ {j:Nat} {x:Tree},l[j]? = some x→nodeOk r (k+j) x=true
 | [],_,_,j,x,h=>by cases h
 | y :: l,k,hk,j,x,h=>by
  rw[nodesOk,Bool.and_eq_true]at hk
  cases j with
  | zero =>
   simp only[List.getElem?_cons_zero,Option.some.injEq]at h;rw[← h];exact hk.1
  | succ j =>
   rw[List.getElem?_cons_succ]at h;have:=nodesOk_at hk.2 h;rw[show k+1+j=k+(j+1) by omega]at this;exact this
end Go.Proofs.YtoepemlnlpamlaaGreat
namespace Go.Proofs.YtoepemlnlpamlaaGreat
set_option maxRecDepth 100000
set_option maxHeartbeats 4000000
open Go.RowKit
theorem TreeDgs.at_ {w0:World} {t:Tree} {ds:List Dg} {e:Ending} {w':World} (h:TreeDgs w0 t ds e w'):∃ A c DA dc,e = .returned (.tuple #[nodeV t A c,.slice DA ds.length dc,.int .i64 0])∧t.kids.length≤c∧KidsAt w' w'.heap.size A 0 t.kids∧OwnS w' w0.heap.size 78 5 (.slice DA ds.length dc) ds.length (ds.flatMap dgCells)∧Below w0.heap.size w0 w':=by
 obtain⟨k,x,a,z,A,n,c,DA,dn,dc,he,hT,hd,ho,hb⟩:=h;have hat:=TreeOwn.at_ t _ hT;have hcap:=hat.cap;obtain⟨A',c',h1,h2⟩:=hat.five;simp only[List.cons.injEq,Value.int.injEq,Value.string.injEq,Value.slice.injEq,true_and,and_true]at h1;obtain⟨rfl,rfl,rfl,rfl,rfl,rfl,rfl⟩:=h1;subst hd;exact⟨A,c,DA,dc,he,hcap,h2,ho,hb⟩
theorem ValsAt.get {w:World} {B:Nat}:∀ {ts:List Tree} {vs:List (List Value)},ValsAt w B ts vs→∀ {j:Nat} {x:Tree},ts[j]? = some x→∃ cs,TreeAt w B x cs∧∀ q u,cs[q]? = some u→(List.flatten vs)[j * 5+q]? = some u
 | [],_,_,j,x,h=>by cases h
 | t :: ts,vs0,h0,j,x,h=>by
  obtain⟨v,vs,rfl,h3,h4⟩:=h0;obtain⟨A,c,hv,-⟩:=h3.five
  have hl:v.length=5:=by rw[hv];rfl
  cases j with
  | zero =>
   simp only[List.getElem?_cons_zero,Option.some.injEq]at h;subst h;refine⟨v,h3,fun q u hq=>?_⟩;have hlt:=(List.getElem?_eq_some_iff.1 hq).1;rw[List.flatten_cons,Nat.zero_mul,Nat.zero_add,List.getElem?_append_left hlt];exact hq
  | succ j =>
   rw[List.getElem?_cons_succ]at h;obtain⟨cs,h5,h6⟩:=ValsAt.get h4 h;refine⟨cs,h5,fun q u hq=>?_⟩;rw[List.flatten_cons,List.getElem?_append_right (by omega),hl,show (j+1) * 5+q - 5=j * 5+q by omega];exact h6 q u hq
theorem rowI_one {w:World} {b:Nat} (z:Int) (h:w.cell? ⟨b,0,none⟩=some (.int .i64 z)) (hb:b < w.heap.size):RowAt 1 intCells w w.heap.size (some ⟨b,0,none⟩) [z]:=by
 intro k c hk
 match k,hk with
 | 0,hk =>
  cases hk
  refine⟨b,0,rfl,hb,fun j v hj=>?_⟩
  match j,hj with
  | 0,hj=>cases hj;exact h
  | j+1,hj=>simp[intCells]at hj
 | k+1,hk=>simp at hk
theorem rowI_two {w:World} {b:Nat} (y z:Int) (h0:w.cell? ⟨b,0,none⟩=some (.int .i64 y)) (h1:w.cell? ⟨b,1,none⟩=some (.int .i64 z)) (hb:b < w.heap.size):RowAt 1 intCells w w.heap.size (some ⟨b,0,none⟩) [y,z]:=by
 intro k c hk
 match k,hk with
 | 0,hk =>
  cases hk
  refine⟨b,0,rfl,hb,fun j v hj=>?_⟩
  match j,hj with
  | 0,hj=>cases hj;exact h0
  | j+1,hj=>simp[intCells]at hj
 | 1,hk =>
  cases hk
  refine⟨b,0,rfl,hb,fun j v hj=>?_⟩
  match j,hj with
  | 0,hj=>cases hj;exact h1
  | j+1,hj=>simp[intCells]at hj
 | k+2,hk=>simp at hk
theorem rowS_three {w:World} {b:Nat} (x y z:ByteArray) (h0:w.cell? ⟨b,0,none⟩=some (.string x)) (h1:w.cell? ⟨b,1,none⟩=some (.string y)) (h2:w.cell? ⟨b,2,none⟩=some (.string z)) (hb:b < w.heap.size):RowAt 1 strCells w w.heap.size (some ⟨b,0,none⟩) [x,y,z]:=by
 intro k c hk
 match k,hk with
 | 0,hk =>
  cases hk
  refine⟨b,0,rfl,hb,fun j v hj=>?_⟩
  match j,hj with
  | 0,hj=>cases hj;exact h0
  | j+1,hj=>simp[strCells]at hj
 | 1,hk =>
  cases hk
  refine⟨b,0,rfl,hb,fun j v hj=>?_⟩
  match j,hj with
  | 0,hj=>cases hj;exact h1
  | j+1,hj=>simp[strCells]at hj
 | 2,hk =>
  cases hk
  refine⟨b,0,rfl,hb,fun j v hj=>?_⟩
  match j,hj with
  | 0,hj=>cases hj;exact h2
  | j+1,hj=>simp[strCells]at hj
 | k+3,hk=>simp at hk
theorem ivs_flat (l:List Int):ivs l=l.flatMap intCells:=by
 induction l with
 | nil=>rfl
 | cons a l ih=>rw[List.flatMap_cons,← ih];rfl
theorem check2_free {t:Tree} (h:check2 t=true):freeM t [] [] = [⟨#[97]⟩,⟨#[99]⟩,⟨#[100]⟩]∧countM t≤100:=by
 unfold check2 at h;rw[Bool.and_eq_true,decide_eq_true_eq,decide_eq_true_eq]at h;refine⟨?_,h.2⟩;have h1:=h.1
 generalize freeM t [] [] = l at h1 ⊢
 match l,h1 with
 | [x,y,z],h1 =>
  simp only[List.map_cons,List.map_nil,List.cons.injEq,and_true]at h1;rw[bytes_eq (a:=x) (b:=⟨#[97]⟩) (by rw[h1.1]),bytes_eq (a:=y) (b:=⟨#[99]⟩) (by rw[h1.2.1]),bytes_eq (a:=z) (b:=⟨#[100]⟩) (by rw[h1.2.2])]
 | [],h1=>cases h1
 | [x],h1=>simp at h1
 | [x,y],h1=>simp at h1
 | x :: y :: z :: u :: l,h1=>simp at h1
theorem awake_any (w:World):Calls Tryz.prog 11 #[] w fun e w'=>e = .returned (.bool true)∧Below w.heap.size w w':=by
 have hp1:=fun w=>parse_any ⟨#[112,114,111,99,32,102,40,120,41,123,118,97,114,32,121,61,120,59,103,40,121,41,59,125,112,114,111,99,32,103,40,122,41,123,125]⟩ w (by decide)
 obtain⟨t2,p2,hs1,hs2,hs3⟩:=parse2'
 have hp2:=fun w=>statement_any ⟨#[105,102,32,97,32,123,32,118,97,114,32,98,32,61,32,99,59,32,100,32,61,32,98,59,32,125]⟩ w (by decide) 30 t2 p2 hs1 hs3
 have HP1:=kH hp1;have HP2:=kH hp2;have HS2:=kH hs2;clear hp1 hp2 hs1 hs2 hs3
 go_enter Tryz.func11,Tryz.ntmps11
 go_wp2_with fail
 refine(HP1.out _).mono ?_;rintro e1 w1 ⟨f,t,ds,hpm,htd⟩;have hck:=parse1' hpm;obtain⟨A,c,DA,dc,rfl,hcap,hk,hod,hb1⟩:=htd.at_;unfold check1 at hck;simp only[Bool.and_eq_true,decide_eq_true_eq,resolveN_eq]at hck;obtain⟨⟨⟨⟨⟨⟨⟨⟨hd0,hval⟩,hpr⟩,hds⟩,hdn⟩,hdk⟩,hul⟩,hcn⟩,hnok⟩:=hck;rw[hd0];obtain⟨k0,x0,a0,z0,n0,-,-,-,-,hn0,hnv⟩:=node_named t A c;rw[hnv]
 have hres:=fun W (hb:Below w1.heap.size w1 W)=>Resolve_any t A c W (by omega) hcap (KidsAt.mono hb.size _ _ _ (KidsAt.below hb (Nat.le_refl _) _ _ _ hk))
 rw[hnv]at hres;have HRES:=kH hres;have HB1:=kH hb1;have HCAP:=kH hcap;have HK:=kH hk;have HVAL:=kH hval;have HPR:=kH hpr;have HDS:=kH hds;have HDN:=kH hdn;have HDK:=kH hdk;have HUL:=kH hul;have HCN:=kH hcn;have HNOK:=kH hnok;have HNV:=kH hnv;clear hpm htd hod hd0 hval hpr hds hdn hdk hul hcn hnok hnv hres hb1 hcap hk hn0
 go_wp2_with fail
 obtain⟨nb,hnb⟩:∃ q,w1.heap.size=q:=⟨_,rfl⟩
 obtain⟨W1,hW1⟩:∃ W1,w1.alloc (.cells #[.int .i64 k0,.string x0,.int .i64 a0,.int .i64 z0,.slice A n0 c] 24)=W1:=⟨_,rfl⟩
 rw[hW1]
 have hbW:Below w1.heap.size w1 W1:=by rw[← hW1];exact below_alloc _ _
 have hNW:Blk W1 w1.heap.size 24 #[.int .i64 k0,.string x0,.int .i64 a0,.int .i64 z0,.slice A n0 c]:=by rw[← hW1];exact Blk.new _ _ _
 have hcall:=HRES.out W1 hbW;have HC:=kH hcall;have HNW:=kH hNW;have HBW:=kH hbW;rw[hnb]at HNW;clear hcall hNW hbW hW1;refine HC.out.mono ?_;rintro e2 w2 h2
 rcases h2 with ⟨hf,-⟩ | ⟨-,E,V,Aw,nw,cw,rfl,hEb,hR,hnw,how,hb2⟩
 ·rw[HVAL.out]at hf
  cases hf
 rw[HPR.out]at hnw;subst hnw;rw[HDS.out,HUL.out]
 obtain⟨N,hN⟩:∃ q,countM t=q:=⟨_,rfl⟩
 rw[hN]
 obtain⟨d2,hd2,hd2n⟩:∃ d,(resolveM t).ds[2]? = some d∧d.name.data.toList = [121]:=by
  have:=HDN.out
  cases h:(resolveM t).ds[2]? with
  | none=>rw[h]at this;cases this
  | some d=>rw[h]at this;exact⟨d,rfl,by simpa using this⟩
 obtain⟨d4,hd4,hd4k⟩:∃ d,(resolveM t).ds[4]? = some d∧d.kind=3:=by
  have:=HDK.out
  cases h:(resolveM t).ds[4]? with
  | none=>rw[h]at this;cases this
  | some d=>rw[h]at this;exact⟨d,rfl,by simpa using this⟩
 have hrow:=hR.ds.rowAt (cells:=dcCells) (l:=(resolveM t).ds) rfl rfl (fun _ _=>rfl) rfl;obtain⟨db,doff,hdA,hdl,hdc⟩:=hrow 2 d2 hd2;obtain⟨db',doff',hdA',-,hdc'⟩:=hrow 4 d4 hd4;rw[hdA]at hdA';simp only[Option.some.injEq,Addr.mk.injEq,and_true]at hdA';obtain⟨rfl,rfl⟩:=hdA';rw[hdA];have hc2:=hdc 1 _ rfl;have hc4:=hdc' 0 _ rfl;rw[hd4k]at hc4
 obtain⟨yn,hyn⟩:∃ q,d2.name=q:=⟨_,rfl⟩
 rw[hyn]at hc2 hd2n
 have hyt:yn.toList = [121]:=by rw[ByteArray.toList_eq];exact hd2n
 obtain⟨uA,huA⟩:∃ q,E.uA=q:=⟨_,rfl⟩
 obtain⟨uc,huc⟩:∃ q,E.uc=q:=⟨_,rfl⟩
 obtain⟨dc2,hdc2⟩:∃ q,V.dc=q:=⟨_,rfl⟩
 rw[huA,huc,hdc2];have hus:=hR.us;rw[HUL.out,hN,huA,huc]at hus;have HUS:=kH hus;have HNN:=kH hN;have HC2:Hid (w2.cell? ⟨db,doff+9,none⟩=some (.string yn)∧w2.cell? ⟨db,doff+16,none⟩=some (.int .i64 3)∧db < w2.heap.size):=kH ⟨by simpa using hc2,by simpa using hc4,hdl⟩;have HNW2:=kH (HNW.out.below hb2 HNW.out.lt);have HB2:Hid (Below w1.heap.size w1 w2):=kH (HBW.out.trans (hb2.mono HBW.out.size))
 have hNm:N≤100:=by rw[← hN];exact HCN.out
 clear hEb hR how hb2 hd2 hd2n hd4 hd4k hrow hdA hdc hdc' hdl hc2 hc4 hyn huA huc hdc2 hus hN HC
 go_wp2_with fail
 obtain⟨rb,hrb⟩:∃ q,w2.heap.size=q:=⟨_,rfl⟩
 obtain⟨W2,hW2⟩:∃ W2,w2.alloc (.cells #[.slice (some ⟨db,doff,none⟩) 5 dc2,.slice uA N uc] 30)=W2:=⟨_,rfl⟩
 rw[hW2]
 have hbW:Below w2.heap.size w2 W2:=by rw[← hW2];exact below_alloc _ _
 have hRW:Blk W2 w2.heap.size 30 #[.slice (some ⟨db,doff,none⟩) 5 dc2,.slice uA N uc]:=by rw[← hW2];exact Blk.new _ _ _
 rw[hrb]at hRW;have HRW:=kH hRW;have HBW2:=kH hbW;clear hbW hRW hW2;refine(HP2.out W2).mono ?_;rintro e3 w3 htd;obtain⟨A2,c2,DA2,dc3,rfl,hcap2,hk2,hod2,hb3⟩:=htd.at_;obtain⟨m0,y0,b0,f0,q0,-,-,-,-,-,hnv2⟩:=node_named t2 A2 c2;rw[hnv2]
 obtain⟨nd2,hnd2⟩:∃ q,(mergeM (lexicalM (ByteArray.mk #[105,102,32,97,32,123,32,118,97,114,32,98,32,61,32,99,59,32,100,32,61,32,98,59,32,125]).data.toList) p2.ds).length=q:=⟨_,rfl⟩
 rw[hnd2];have HNV2:=kH hnv2;have HK2:=kH hk2;have HBA:Hid (Below w1.heap.size w1 w3):=kH ((HB2.out.trans (HBW2.out.mono HB2.out.size)).trans (hb3.mono (Nat.le_trans HB2.out.size HBW2.out.size)));have HB23:Hid (Below w2.heap.size w2 w3):=kH (HBW2.out.trans (hb3.mono HBW2.out.size));have HR3:=kH (HRW.out.below hb3 HRW.out.lt);clear htd hod2 hb3 hcap2 hk2 hnv2 hnd2
 go_wp2_with fail
 obtain⟨sb,hsb⟩:∃ q,w3.heap.size=q:=⟨_,rfl⟩
 obtain⟨W3,hW3⟩:∃ W3,w3.alloc (.cells #[.int .i64 m0,.string y0,.int .i64 b0,.int .i64 f0,.slice A2 q0 c2] 24)=W3:=⟨_,rfl⟩
 rw[hW3]
 have hbW:Below w3.heap.size w3 W3:=by rw[← hW3];exact below_alloc _ _
 have hSW:Blk W3 w3.heap.size 24 #[.int .i64 m0,.string y0,.int .i64 b0,.int .i64 f0,.slice A2 q0 c2]:=by rw[← hW3];exact Blk.new _ _ _
 rw[hsb]at hSW;have HSW:=kH hSW;have HBW3:=kH hbW;have HB23':Hid (Below w2.heap.size w2 W3):=kH (HB23.out.trans (hbW.mono HB23.out.size));have HNW3:=kH ((HNW2.out.below HB23.out HNW2.out.lt).below hbW (HNW2.out.below HB23.out HNW2.out.lt).lt);have HRW3:=kH (HR3.out.below hbW HR3.out.lt);have HBB:Hid (Below w1.heap.size w1 W3):=kH (HBA.out.trans (hbW.mono HBA.out.size))
 have hKS:∀ w':World,Below W3.heap.size W3 w'→(Below W3.heap.size W3 w'∧w'.cell? ⟨rb,0,none⟩=some (.slice (some ⟨db,doff,none⟩) 5 dc2)∧w'.cell? ⟨rb,1,none⟩=some (.slice uA N uc)∧w'.cell? ⟨db,doff+9,none⟩=some (.string yn)∧w'.cell? ⟨db,doff+16,none⟩=some (.int .i64 3)∧w'.cell? ⟨nb,0,none⟩=some (.int .i64 k0)∧w'.cell? ⟨nb,1,none⟩=some (.string x0)∧w'.cell? ⟨nb,2,none⟩=some (.int .i64 a0)∧w'.cell? ⟨nb,3,none⟩=some (.int .i64 z0)∧w'.cell? ⟨nb,4,none⟩=some (.slice A n0 c)):=fun w' hb=>by
  have b1:=HNW3.out.below hb HNW3.out.lt;have b2:=HRW3.out.below hb HRW3.out.lt;have hbz:Below w2.heap.size w2 w':=HB23'.out.trans (hb.mono HB23'.out.size);exact⟨hb,b2.cell 0,b2.cell 1,(hbz.cell (p:=⟨db,doff+9,none⟩) HC2.out.2.2).trans HC2.out.1,(hbz.cell (p:=⟨db,doff+16,none⟩) HC2.out.2.2).trans HC2.out.2.1,b1.cell 0,b1.cell 1,b1.cell 2,b1.cell 3,b1.cell 4⟩
 have HKS:=kH hKS
 have hcnt:=fun W (hb:Below W3.heap.size W3 W)=>count3_any (countM t) t A c W (Nat.le_refl _) (by have:=HCN.out;omega) (KidsAt.mono (Nat.le_trans HBB.out.size hb.size) _ _ _ (KidsAt.below (HBB.out.trans (hb.mono HBB.out.size)) (Nat.le_refl _) _ _ _ HK.out))
 rw[HNV.out,HNN.out]at hcnt;have HCNT:=kH hcnt;clear hbW hSW hKS hcnt hW3;refine wp_region_HG (fun w'=>Below W3.heap.size W3 w'∧w'.cell? ⟨rb,0,none⟩=some (.slice (some ⟨db,doff,none⟩) 5 dc2)∧w'.cell? ⟨rb,1,none⟩=some (.slice uA N uc)∧w'.cell? ⟨db,doff+9,none⟩=some (.string yn)∧w'.cell? ⟨db,doff+16,none⟩=some (.int .i64 3)∧w'.cell? ⟨nb,0,none⟩=some (.int .i64 k0)∧w'.cell? ⟨nb,1,none⟩=some (.string x0)∧w'.cell? ⟨nb,2,none⟩=some (.int .i64 a0)∧w'.cell? ⟨nb,3,none⟩=some (.int .i64 z0)∧w'.cell? ⟨nb,4,none⟩=some (.slice A n0 c)) [] [true,true,true,true,true,true,true,true,true,true,true,true,true,true,true,true,true,true,true,true,true,true,true,true,true,true,true,true,true,true,true,true,true,true,false,true,true] (by kernel_rfl) (by kernel_rfl) rfl (by kernel_rfl) ?_;have hS0:=HKS.out W3.drew ((Below.refl _ _).drew)
 iterate 34((first | (refine wpHG_off (by rfl) hS0 ?_) | (refine wpHG_soft (by rfl) hS0 (by intro w' hSw;obtain⟨-,hs1,hs2,hs3,hs4,hs5,hs6,hs7,hs8,hs9⟩:=hSw;go_simp;rfl) ?_));simp only[Act.put,sA,sZ,sC])
 refine wpHG_call (by rfl) (by go_simp) ((HCNT.out _ hS0.1).mono ?_);rintro e5 w5 ⟨rfl,hb5⟩;have hS1:=HKS.out w5 (hS0.1.trans (hb5.mono hS0.1.size));refine⟨_,rfl,fun _=>hS1,?_⟩
 iterate 2(simp only[Act.put,sA,sZ,sC];(first | (refine wpHG_off (by rfl) hS1 ?_) | (refine wpHG_soft (by rfl) hS1 (by intro w' hSw;obtain⟨-,hs1,hs2,hs3,hs4,hs5,hs6,hs7,hs8,hs9⟩:=hSw;go_simp;rfl) ?_)))
 simp only[Act.put,sA,sZ,sC];refine wpHG_nil ?_;have HB5:Hid (Below w1.heap.size w1 w5):=kH (HBB.out.trans (hS1.1.mono HBB.out.size));have HB52:Hid (Below w2.heap.size w2 w5):=kH (HB23'.out.trans (hS1.1.mono HB23'.out.size));have HB53:Hid (Below w3.heap.size w3 w5):=kH (HBW3.out.trans (hS1.1.mono HBW3.out.size));have HNW5:=kH (HNW3.out.below hS1.1 HNW3.out.lt);have HRW5:=kH (HRW3.out.below hS1.1 HRW3.out.lt);have HSW5:=kH (HSW.out.below hS1.1 HSW.out.lt);have u0:=HNW5.out.cell 0;have u1:=HNW5.out.cell 1;have u2:=HNW5.out.cell 2;have u3:=HNW5.out.cell 3;have u4:=HNW5.out.cell 4;have lu:=HNW5.out.lt;have hnod:=nodes3_any (countM t) t A c w5 w5.heap.size (Nat.le_refl _) (Nat.le_refl _) (by have:=HCN.out;omega) HCAP.out (KidsAt.mono HB5.out.size _ _ _ (KidsAt.below HB5.out (Nat.le_refl _) _ _ _ HK.out));rw[HNV.out]at hnod;have HNOD:=kH hnod;clear hS0 hS1 hb5 hnod
 go_wp2_with fail
 clear u0 u1 u2 u3 u4 lu;refine HNOD.out.mono ?_;rintro e6 w6 ⟨v6,n6,vals,rfl,hn6,ho6,hva,hb6⟩;obtain⟨A6,c6,hv6,-,-⟩:=ho6.shape;subst hv6
 have hn6N:n6=N:=by rw[hn6,nodesM_len,HNN.out]
 subst hn6N;have HO6:=kH ho6;have HVA:=kH hva;have HB6:Hid (Below w1.heap.size w1 w6):=kH (HB5.out.trans (hb6.mono HB5.out.size));have HB62:Hid (Below w2.heap.size w2 w6):=kH (HB52.out.trans (hb6.mono HB52.out.size));have HB63:Hid (Below w3.heap.size w3 w6):=kH (HB53.out.trans (hb6.mono HB53.out.size));have HNW6:=kH (HNW5.out.below hb6 HNW5.out.lt);have HRW6:=kH (HRW5.out.below hb6 HRW5.out.lt);have HSW6:=kH (HSW5.out.below hb6 HSW5.out.lt);have HN6:=kH hn6;clear ho6 hva hb6 hn6 HNOD
 go_wp2_with fail
 go_loopg [68] n6 (fun gk s68 wr => ∃ k:Nat,s68 = .int .i64 (k:Int)∧k+gk=n6∧Hid (Below w6.heap.size w6 wr))
 case atStart=>exact⟨0,rfl,by omega,kH (Below.refl _ _)⟩
 case round =>
  obtain⟨k,rfl,hk6,HB⟩:=hrel;have HNWr:=kH (HNW6.out.below HB.out HNW6.out.lt);have HRWr:=kH (HRW6.out.below HB.out HRW6.out.lt);have HSWr:=kH (HSW6.out.below HB.out HSW6.out.lt)
  by_cases hlt:k < n6
  ·have hlt':(k:Int) < (n6:Int):=by omega
   have hw:IntKind.i64.wrap ((k:Int)+1)=(k:Int)+1:=IntWalk.i64_in _ (by omega)
   obtain⟨x,hx⟩:∃ x,(nodesM t)[k]? = some x:=⟨_,List.getElem?_eq_getElem (by rw[← HN6.out];exact hlt)⟩
   obtain⟨cs,hT,hfl⟩:=ValsAt.get HVA.out hx;obtain⟨A',c',hcs,-⟩:=hT.five;subst hcs;obtain⟨bk,off,cap,hv,-,-,-,hbk,hcell⟩:=(HO6.out.below HB.out (fun g hg=>(HO6.out.lt g hg).2)).form (by omega);simp only[Value.slice.injEq,true_and]at hv;obtain⟨rfl,rfl⟩:=hv
   obtain⟨xk,hxk⟩:∃ q,x.kind=q:=⟨_,rfl⟩
   obtain⟨xt,hxt⟩:∃ q,x.text=q:=⟨_,rfl⟩
   obtain⟨xa,hxa⟩:∃ q,x.at_=q:=⟨_,rfl⟩
   obtain⟨xz,hxz⟩:∃ q,x.end_=q:=⟨_,rfl⟩
   obtain⟨xn,hxn⟩:∃ q,x.kids.length=q:=⟨_,rfl⟩
   have hcs':∀ q v,[Value.int .i64 xk,.string xt,.int .i64 xa,.int .i64 xz,.slice A' xn c'][q]? = some v→wr.cell? ⟨bk,off+k * 5+q,none⟩=some v:=fun q v hq=>by
    have:=hcell _ _ (hfl q v (by rw[hxk,hxt,hxa,hxz,hxn];exact hq));rw[show off+(k * 5+q)=off+k * 5+q by omega]at this;exact this
   have t0:wr.cell? ⟨bk,off+k * 5,none⟩=some (.int .i64 xk):=by simpa using hcs' 0 _ rfl
   have t1:wr.cell? ⟨bk,off+k * 5+1,none⟩=some (.string xt):=by simpa using hcs' 1 _ rfl
   have t2':wr.cell? ⟨bk,off+k * 5+2,none⟩=some (.int .i64 xa):=by simpa using hcs' 2 _ rfl
   have t3:wr.cell? ⟨bk,off+k * 5+3,none⟩=some (.int .i64 xz):=by simpa using hcs' 3 _ rfl
   have t4:wr.cell? ⟨bk,off+k * 5+4,none⟩=some (.slice A' xn c'):=by simpa using hcs' 4 _ rfl
   have hok:=nodesOk_at HNOK.out hx;rw[Nat.zero_add]at hok;unfold nodeOk at hok;rw[hxk,hxt,Bool.and_eq_true]at hok;have HBX:Hid (Below w6.heap.size w6 (wr.alloc (.cells #[.int .i64 xk,.string xt,.int .i64 xa,.int .i64 xz,.slice A' xn c'] 24))):=kH (HB.out.trans ((below_alloc wr _).mono HB.out.size));have hvis:=Visible_any t A c (k:Int) (wr.alloc (.cells #[.int .i64 xk,.string xt,.int .i64 xa,.int .i64 xz,.slice A' xn c'] 24)) (by have:=HCN.out;omega) HCAP.out (KidsAt.mono (Nat.le_trans HB6.out.size HBX.out.size) _ _ _ (KidsAt.below (HB6.out.trans (HBX.out.mono HB6.out.size)) (Nat.le_refl _) _ _ _ HK.out));rw[HNV.out]at hvis;have HVIS:=kH hvis
   have hvm:visibleM t (k:Int)=(lookL (resolveM t).vis (k:Int)).getD []:=by unfold visibleM;rw[if_pos HVAL.out]
   have p0:=HNWr.out.cell 0;have p1:=HNWr.out.cell 1;have p2':=HNWr.out.cell 2;have p3:=HNWr.out.cell 3;have p4:=HNWr.out.cell 4;have lp:=HNWr.out.lt;have r1:=HRWr.out.cell 1;have lr:=HRWr.out.lt;clear hx hT hfl hcell hxk hxt hxa hxz hxn hcs' hvis
   by_cases hA:xk=20∧xt.toList = [120]
   ·obtain⟨rfl,hxt2⟩:=hA
    have h1:=hok.1;rw[ByteArray.toList_eq]at hxt2;rw[hxt2]at h1;simp only[decide_true,beq_self_eq_true,Bool.and_self,Bool.not_true,Bool.false_or,Bool.and_eq_true,decide_eq_true_eq]at h1;rw[← ByteArray.toList_eq]at hxt2;have HVV:Hid (visibleM t (k:Int) = [1]):=kH (by rw[hvm];exact h1.2);obtain⟨ub,uo,ucap,huv,-,-,-,hub,huc⟩:=(HUS.out.below (HB62.out.trans (HB.out.mono HB62.out.size)) (fun g hg=>(HUS.out.lt g hg).2)).form (by omega);simp only[Value.slice.injEq,true_and]at huv;obtain⟨rfl,rfl⟩:=huv;have cu:wr.cell? ⟨ub,uo+k,none⟩=some (.int .i64 1):=huc k _ (by unfold ivs;rw[List.getElem?_map,h1.1];rfl);clear hok h1 hvm huc
    go_wp2_with fail
    refine HVIS.out.mono ?_;rintro e7 w7 ⟨v7,rfl,ho7,hb7⟩;rw[show visibleM t (k:Int) = [1] from HVV.out]at ho7;obtain⟨Av,cv,hv7,-,-⟩:=ho7.shape;subst hv7;have HO7:=kH ho7;have HB7:=kH hb7;clear ho7 hb7
    go_wp2_with fail
    refine(Ints_any Av (some ⟨w7.heap.size,0,none⟩) 1 1 cv 1 [1] [1] _ (((HO7.out.rowAt (cells:=intCells) (l:=[1]) rfl (ivs_flat _) (fun _ _=>rfl) rfl).below (below_alloc _ _) (Nat.le_refl _)).mono (by simp)) (rowI_one 1 (by go_simp) (by simp)) rfl rfl (by omega)).mono ?_;rintro e8 w8 ⟨rfl,hb8⟩;have HB8:Hid (Below w6.heap.size w6 w8):=kH ((HBX.out.trans (HB7.out.mono HBX.out.size)).trans (((below_alloc w7 _).trans (hb8.mono (by simp))).mono (Nat.le_trans HBX.out.size HB7.out.size)))
    have hbx8:=((((Blk.new wr 24 #[.int .i64 20,.string xt,.int .i64 xa,.int .i64 xz,.slice A' xn c']).below HB7.out (by simp)).alloc (.cells #[.int .i64 1] 3)).below hb8 (by have:=HB7.out.size;simp at this ⊢;omega))
    have x8:=hbx8.cell 0;have lx8:=hbx8.lt;simp only[decide_true];clear hb8 hbx8
    go_wp2_with fail
    go_roundg (gk - 1)
    case measure=>omega
    case rel=>exact⟨k+1,by simp,by omega,HB8⟩
   ·by_cases hBk:xk=19
    ·subst hBk
     have h1:=hok.2;simp only[decide_true,Bool.not_true,Bool.false_or,decide_eq_true_eq]at h1;have HVV:Hid (visibleM t (k:Int) = [1,2]):=kH (by rw[hvm];exact h1);clear hok h1 hvm hA
     go_wp2_with fail
     refine HVIS.out.mono ?_;rintro e7 w7 ⟨v7,rfl,ho7,hb7⟩;rw[show visibleM t (k:Int) = [1,2] from HVV.out]at ho7;obtain⟨Av,cv,hv7,-,-⟩:=ho7.shape;subst hv7;have HO7:=kH ho7;have HB7:=kH hb7;clear ho7 hb7
     go_wp2_with fail
     refine(Ints_any Av (some ⟨w7.heap.size,0,none⟩) 2 2 cv 2 [1,2] [1,2] _ (((HO7.out.rowAt (cells:=intCells) (l:=[1,2]) rfl (ivs_flat _) (fun _ _=>rfl) rfl).below (below_alloc _ _) (Nat.le_refl _)).mono (by simp)) (rowI_two 1 2 (by go_simp) (by go_simp) (by simp)) rfl rfl (by omega)).mono ?_;rintro e8 w8 ⟨rfl,hb8⟩;have HB8:Hid (Below w6.heap.size w6 w8):=kH ((HBX.out.trans (HB7.out.mono HBX.out.size)).trans (((below_alloc w7 _).trans (hb8.mono (by simp))).mono (Nat.le_trans HBX.out.size HB7.out.size)));simp only[decide_true];clear hb8
     go_wp2_with fail
     go_roundg (gk - 1)
     case measure=>omega
     case rel=>exact⟨k+1,by simp,by omega,HB8⟩
    ·have hf19:(xk == 19)=false:=by simp[hBk]
     clear hok hvm;have HBC:Hid (Below w6.heap.size w6 (wr.alloc (.cells #[.int .i64 xk,.string xt,.int .i64 xa,.int .i64 xz,.slice A' xn c'] 24))):=HBX
     by_cases h20:xk=20
     ·have hx2:(xt.toList == [120])=false:=by
       rw[beq_eq_false_iff_ne]
       exact fun h=>hA ⟨h20,h⟩
      have hx3:¬ xt.toList = [120]:=fun h=>hA ⟨h20,h⟩
      have hk20:(xk == 20)=true:=by simp[h20]
      clear hA h20 hBk
      go_wp2_with fail
      go_roundg (gk - 1)
      case measure=>omega
      case rel=>exact⟨k+1,by simp,by omega,HBC⟩
     ·have hk20:(xk == 20)=false:=by simp[h20]
      clear hA h20 hBk
      go_wp2_with fail
      go_roundg (gk - 1)
      case measure=>omega
      case rel=>exact⟨k+1,by simp,by omega,HBC⟩
  ·have hkn:k=n6:=by omega
   subst hkn
   have hge:¬ ((k:Int) < (k:Int)):=by omega
   have s0:=HSWr.out.cell 0;have s1:=HSWr.out.cell 1;have s2:=HSWr.out.cell 2;have s3:=HSWr.out.cell 3;have s4:=HSWr.out.cell 4;have ls:=HSWr.out.lt;obtain⟨hfr,hcn2⟩:=check2_free HS2.out;have hb3r:Below w3.heap.size w3 wr:=HB63.out.trans (HB.out.mono HB63.out.size);have hfree:=Free_any t2 A2 c2 wr (by omega) (KidsAt.mono hb3r.size _ _ _ (KidsAt.below hb3r (Nat.le_refl _) _ _ _ HK2.out));rw[HNV2.out,hfr]at hfree;have HFR:=kH hfree;clear hfree hfr hb3r hcn2
   go_wp2_with fail
   refine HFR.out.mono ?_;rintro e7 w7 ⟨v7,rfl,ho7,hb7⟩;obtain⟨Av,cv,hv7,-,-⟩:=ho7.shape;subst hv7;have HO7:=kH ho7;have HB7:Hid (Below w1.heap.size w1 w7):=kH ((HB6.out.trans (HB.out.mono HB6.out.size)).trans (hb7.mono (Nat.le_trans HB6.out.size HB.out.size)));clear ho7 hb7 s0 s1 s2 s3 s4 ls
   go_wp2_with fail
   refine(Texts_any Av (some ⟨w7.heap.size,0,none⟩) 3 3 cv 3 [⟨#[97]⟩,⟨#[99]⟩,⟨#[100]⟩] [⟨#[97]⟩,⟨#[99]⟩,⟨#[100]⟩] _ (((HO7.out.rowAt (cells:=strCells) (l:=[⟨#[97]⟩,⟨#[99]⟩,⟨#[100]⟩]) rfl rfl (fun _ _=>rfl) rfl).below (below_alloc _ _) (Nat.le_refl _)).mono (by simp)) (rowS_three _ _ _ (by go_simp) (by go_simp) (by go_simp) (by simp)) rfl rfl (by omega)).mono ?_;rintro e8 w8 ⟨rfl,hb8⟩;have HB8:Hid (Below w.heap.size w w8):=kH (HB1.out.trans ((HB7.out.trans (((below_alloc w7 _).trans (hb8.mono (by simp))).mono HB7.out.size)).mono HB1.out.size));simp only[decide_true];clear hb8
   go_wp2_with fail
   go_ret
   exact⟨rfl,HB8.out⟩
end Go.Proofs.YtoepemlnlpamlaaGreat
