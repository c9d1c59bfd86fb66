/- The law NamesVisibleAt holds where what it reads is of bulk at most 1048576: it returns true, and its arguments read as before. Part 43: Ints Awk1 Awk2. -/
import Derived.Test.YtoepemlnlpamlaaGreatVisa15
import Derived.Test.YtoepemlnlpamlaaGreatVisa17
import Derived.Test.YtoepemlnlpamlaaGreatVisa42
set_option maxRecDepth 100000
set_option maxHeartbeats 4000000
namespace Go.Proofs.YtoepemlnlpamlaaGreat
open Go.RowKit
theorem QE{D:Type}{B C:List D}{k:Nat}{x y:D}(h:B.take k=C.take k)(E:B[k]? =some x)(F:C[k]? =some y)(A:x=y):B.take (k+1)=C.take (k+1):=by
 rw[List.take_add_one,List.take_add_one,h,E,F,A]
theorem TC(W X:Option Addr)(B N j g:Nat)(C D:List Int)(w:World)(Q:bU 1 gN w w.heap.size W C)(R:bU 1 gN w w.heap.size X D)(E:C.length=B)(F:D.length=N)(hn:B<=9223372036854775807):
 Calls Tryz.prog 16 #[.slice W B j,.slice X N g] w fun e w'=>e= .returned (.bool (decide (C=D)))/\Below w.heap.size w w':=by
 by_cases J:B=N
 ·subst J
  have q:=kH Q;have n:=kH R;have V:=kH E;have I:=kH F;clear Q R E F;go_in
  go_wp2_with fail
  go_loopg [5] B (fun gk s wr=> ∃k:Nat,k+gk=B/\s= .int .i64 k/\Below w.heap.size w wr/\C.take k=D.take k)
  case atStart=>exact⟨0,by omega,rfl,Below.refl _ _,rfl⟩
  case round=>
   obtain⟨k,t,rfl,u,r⟩:=hrel;have d:k<=B:=by omega
   have z:=kH t;have v:=kH r;clear t r;by_cases G:k<B
   ·have O:C[k]? =some (C[k]'(by rw[V.out];exact G)):=aaf _
    have P:D[k]? =some (D[k]'(by rw[I.out];exact G)):=aaf _;generalize C[k]'(by rw[V.out];exact G)=x at O
    generalize D[k]'(by rw[I.out];exact G)=y at P
    obtain⟨m,o1,S,f,L⟩:=(q.out.below u (aab _)) k _ O;obtain⟨l,o2,T,U,M⟩:=(n.out.below u (aab _)) k _ P;subst S;subst T;have hx:wr.cell? ⟨m,o1+k,none⟩=some (.int .i64 x):=by simpa using L 0 _ rfl
    have hy:wr.cell? ⟨l,o2+k,none⟩=some (.int .i64 y):=by simpa using M 0 _ rfl
    have Y:=kH O;have Z:=kH P;have c:(k:Int)<(B:Int):=by omega
    clear L M O P;by_cases H:x=y
    ·subst H
     go_wp2_with fail
     go_quiet (fail)
     go_wp2_with fail
     go_roundg (gk - 1)
     case measure=>have:=z.out;omega
     case rel=>exact⟨k+1,by have:=z.out;omega,by go_num,by(repeat (first|exact Below.refl _ _|assumption|refine Below.trans ?_ (Below.mono (by assumption) (by first|omega|(simp;done)|(simp;omega)))|refine Below.alloc ?_ (by first|omega|(simp;done)|(simp;omega)) _|refine Below.setCell ?_ (by first|omega|(simp;done)|(simp;omega)) _|refine Below.drew ?_|refine aT ?_ _)),QE v.out Y.out Z.out rfl⟩
    ·have b:(x !=y)=true:=by simpa using H
     have A:decide (C=D)=false:=by
      refine decide_eq_false fun e=>?_
      have:=Y.out;rw[e,Z.out]at this;cases this
      exact H rfl
     have K:=kH A;clear A H;go_wp2_with fail
     go_quiet (fail)
     go_wp2_with fail
     go_ret
     rw[K.out];exact⟨rfl,by(repeat (first|exact Below.refl _ _|assumption|refine Below.trans ?_ (Below.mono (by assumption) (by first|omega|(simp;done)|(simp;omega)))|refine Below.alloc ?_ (by first|omega|(simp;done)|(simp;omega)) _|refine Below.setCell ?_ (by first|omega|(simp;done)|(simp;omega)) _|refine Below.drew ?_|refine aT ?_ _))⟩
   ·have A:decide (C=D)=true:=by
     have h:=v.out;rw[List.take_of_length_le (by rw[V.out];omega),List.take_of_length_le (by rw[I.out];omega)]at h;exact decide_eq_true h
    have K:=kH A;clear A;go_wp2_with fail
    go_ret
    rw[K.out];exact⟨rfl,by(repeat (first|exact Below.refl _ _|assumption|refine Below.trans ?_ (Below.mono (by assumption) (by first|omega|(simp;done)|(simp;omega)))|refine Below.alloc ?_ (by first|omega|(simp;done)|(simp;omega)) _|refine Below.setCell ?_ (by first|omega|(simp;done)|(simp;omega)) _|refine Below.drew ?_|refine aT ?_ _))⟩
 ·have hb:(B !=N)=true:=by simpa using J
  have A:decide (C=D)=false:=decide_eq_false (fun e=>J (by rw[<- E,<- F,e]));have K:=kH A;have U:((B:Int) !=(N:Int))=true:=by simp;omega
  clear A Q R E F;go_in
  go_wp2_with fail
  go_ret
  rw[K.out];exact⟨rfl,by(repeat (first|exact Below.refl _ _|assumption|refine Below.trans ?_ (Below.mono (by assumption) (by first|omega|(simp;done)|(simp;omega)))|refine Below.alloc ?_ (by first|omega|(simp;done)|(simp;omega)) _|refine Below.setCell ?_ (by first|omega|(simp;done)|(simp;omega)) _|refine Below.drew ?_|refine aT ?_ _))⟩
theorem TD(D E:Option Addr)(C H I J:Nat)(A B:List Int)(w:World)(K:bU 1 gN w w.heap.size D A)(L:bU 1 gN w w.heap.size E B)(F:A.length=C)(G:B.length=H)(M:C<=1000000):
 Calls Tryz.prog 16 #[.slice D C I,.slice E H J] w fun e w'=>e= .returned (.bool (decide (A=B)))/\Below w.heap.size w w':=
 TC D E C H I J A B w K L F G (by omega)
theorem Pp(X Y:Option Addr)(B N g f:Nat)(C D:List ByteArray)(w:World)(Q:bU 1 bN w w.heap.size X C)(R:bU 1 bN w w.heap.size Y D)(E:C.length=B)(F:D.length=N)(hn:B<=1000000):
 Calls Tryz.prog 19 #[.slice X B g,.slice Y N f] w fun e w'=>e= .returned (.bool (decide (C=D)))/\Below w.heap.size w w':=by
 by_cases J:B=N
 ·subst J
  have n:=kH Q;have m:=kH R;have W:=kH E;have I:=kH F;clear Q R E F;go_in
  go_wp2_with fail
  go_loopg [5] B (fun gk s wr=> ∃k:Nat,k+gk=B/\s= .int .i64 k/\Below w.heap.size w wr/\C.take k=D.take k)
  case atStart=>exact⟨0,by omega,rfl,Below.refl _ _,rfl⟩
  case round=>
   obtain⟨k,r,rfl,t,q⟩:=hrel;have c:k<=B:=by omega
   have v:=kH r;have u:=kH q;clear r q;by_cases G:k<B
   ·have O:C[k]? =some (C[k]'(by rw[W.out];exact G)):=aaf _
    have P:D[k]? =some (D[k]'(by rw[I.out];exact G)):=aaf _;generalize C[k]'(by rw[W.out];exact G)=x at O
    generalize D[k]'(by rw[I.out];exact G)=y at P
    obtain⟨l,o1,S,d,L⟩:=(n.out.below t (aab _)) k _ O;obtain⟨j,o2,T,U,M⟩:=(m.out.below t (aab _)) k _ P;subst S;subst T;have hx:wr.cell? ⟨l,o1+k,none⟩=some (.string x):=by simpa using L 0 _ rfl
    have hy:wr.cell? ⟨j,o2+k,none⟩=some (.string y):=by simpa using M 0 _ rfl
    have Z:=kH O;have z:=kH P;have b:(k:Int)<(B:Int):=by omega
    clear L M O P;by_cases H:x=y
    ·subst H
     go_wp2_with fail
     go_quiet (fail)
     go_wp2_with fail
     go_roundg (gk - 1)
     case measure=>have:=v.out;omega
     case rel=>exact⟨k+1,by have:=v.out;omega,by go_num,by(repeat (first|exact Below.refl _ _|assumption|refine Below.trans ?_ (Below.mono (by assumption) (by first|omega|(simp;done)|(simp;omega)))|refine Below.alloc ?_ (by first|omega|(simp;done)|(simp;omega)) _|refine Below.setCell ?_ (by first|omega|(simp;done)|(simp;omega)) _|refine Below.drew ?_|refine aT ?_ _)),QE u.out Z.out z.out rfl⟩
    ·have V:¬x.toList=y.toList:=fun h=>H (mY (by rw[<- ByteArray.toList_eq,<- ByteArray.toList_eq,h]))
     have Va:(x.toList==y.toList)=false:=by rw[beq_eq_false_iff_ne];exact V
     have A:decide (C=D)=false:=by
      refine decide_eq_false fun e=>?_
      have:=Z.out;rw[e,z.out]at this;cases this
      exact H rfl
     have K:=kH A;clear A H;go_wp2_with fail
     go_quiet (fail)
     go_wp2_with fail
     go_ret
     rw[K.out];exact⟨rfl,by(repeat (first|exact Below.refl _ _|assumption|refine Below.trans ?_ (Below.mono (by assumption) (by first|omega|(simp;done)|(simp;omega)))|refine Below.alloc ?_ (by first|omega|(simp;done)|(simp;omega)) _|refine Below.setCell ?_ (by first|omega|(simp;done)|(simp;omega)) _|refine Below.drew ?_|refine aT ?_ _))⟩
   ·have A:decide (C=D)=true:=by
     have h:=u.out;rw[List.take_of_length_le (by rw[W.out];omega),List.take_of_length_le (by rw[I.out];omega)]at h;exact decide_eq_true h
    have K:=kH A;clear A;go_wp2_with fail
    go_ret
    rw[K.out];exact⟨rfl,by(repeat (first|exact Below.refl _ _|assumption|refine Below.trans ?_ (Below.mono (by assumption) (by first|omega|(simp;done)|(simp;omega)))|refine Below.alloc ?_ (by first|omega|(simp;done)|(simp;omega)) _|refine Below.setCell ?_ (by first|omega|(simp;done)|(simp;omega)) _|refine Below.drew ?_|refine aT ?_ _))⟩
 ·have hb:(B !=N)=true:=by simpa using J
  have A:decide (C=D)=false:=decide_eq_false (fun e=>J (by rw[<- E,<- F,e]));have K:=kH A;have U:((B:Int) !=(N:Int))=true:=by simp;omega
  clear A Q R E F;go_in
  go_wp2_with fail
  go_ret
  rw[K.out];exact⟨rfl,by(repeat (first|exact Below.refl _ _|assumption|refine Below.trans ?_ (Below.mono (by assumption) (by first|omega|(simp;done)|(simp;omega)))|refine Below.alloc ?_ (by first|omega|(simp;done)|(simp;omega)) _|refine Below.setCell ?_ (by first|omega|(simp;done)|(simp;omega)) _|refine Below.drew ?_|refine aT ?_ _))⟩
end Go.Proofs.YtoepemlnlpamlaaGreat
namespace Go.Proofs.YtoepemlnlpamlaaGreat
def LM:bB:=[112,114,111,99,32,102,40,120,41,123,118,97,114,32,121,61,120,59,103,40,121,41,59,125,112,114,111,99,32,103,40,122,41,123,125]
def Io:bB:=[105,102,32,97,32,123,32,118,97,114,32,98,32,61,32,99,59,32,100,32,61,32,98,59,32,125]
def NQ(x:Int):List Int->List Int
 | []=>[x]
 | y::l=>if x<=y then x::y::l else y::NQ x l
def mO:List Int->List Int
 | []=>[]
 | x::l=>NQ x (mO l)
theorem Gy(x:Int):∀l:List Int,(NQ x l).Perm (x::l)
 | []=>List.Perm.refl _
 | y::l=>by
  rw[NQ];split
  ·exact List.Perm.refl _
  ·exact((Gy x l).cons y).trans (List.Perm.swap x y l)
theorem Jn(x:Int):∀l:List Int,l.Pairwise (· <= ·)->(NQ x l).Pairwise (· <= ·)
 | [],_=>List.pairwise_singleton _ _
 | y::l,h=>by
  rw[List.pairwise_cons]at h;rw[NQ];split
  ·rename_i hxy
   rw[List.pairwise_cons];refine⟨fun z A=>?_,List.pairwise_cons.2 h⟩;rcases List.mem_cons.1 A with rfl|A
   ·exact hxy
   ·exact Int.le_trans hxy (h.1 z A)
  ·rename_i hxy
   rw[List.pairwise_cons];refine⟨fun z A=>?_,Jn x l h.2⟩;rcases List.mem_cons.1 ((Gy x l).mem_iff.1 A) with rfl|A
   ·omega
   ·exact h.1 z A
theorem LU:∀l:List Int,(mO l).Perm l
 | []=>List.Perm.refl _
 | x::l=>(Gy x _).trans ((LU l).cons x)
theorem Gc:∀l:List Int,(mO l).Pairwise (· <= ·)
 | []=>List.Pairwise.nil
 | x::l=>Jn x _ (Gc l)
theorem sortK_eq(l:List Int):mO l=ak l:=by
 rw[<- Ov (LU l)];refine(List.mergeSort_of_pairwise ?_).symm;exact(Gc l).imp fun h=>by simpa using h
mutual
def F6(G:bC)(inside:Bool):ae->aS->RS->RS×aS
 | .node k x a e kids,s,r0=>
  let t:ae:=.node k x a e kids
  let n:=r0.next
  let r:RS:={ r0 with next:=n+1,aR:=if inside then dh r0.aR (n:Int) (mO (ay s)) else r0.aR }
  let tq:=(aU G.globals x).getD 0
  if k=3 then eu G inside kids 0 kids.length s { aW r 0 n t (decide (tq≠n)) with owner:=n }
  else if k=4 then eu G inside kids 0 kids.length s (aW r 1 n t (decide ((aU G.fields x).getD 0≠n)))
  else if k=5 then
   let r1:RS:={ aW r 2 n t (decide (tq≠n)) with owner:=n }
   let q:=eu G false kids 0 2 [[]] r1
   ((eu G true kids 2 1 ([]::q.2) q.1).1,s)
  else if k=7\/k=8 then
   let q:=aH G r 3 n t s
   eu G inside kids 0 kids.length q.2 q.1
  else if k=11 then
   let q:=eu G inside kids 0 kids.length ([]::s) r
   (q.1,q.2.tail)
  else if k=12 then
   let q:=aH G r 4 n t ([]::s)
   let q2:=eu G inside kids 0 2 s q.1
   (q2.1,kT q2.2 (q.2.headD []))
  else if k=16 then
   let q:=aH G r 5 n t ([]::s)
   let q2:=eu G inside kids 0 2 s q.1
   let q3:=eu G inside kids 2 1 (q.2.headD []::q2.2) q2.1
   (q3.1,q3.2.tail)
  else
   let r1:=if k=20 then gV r n t (fe s x)
    else if k=22 then gV r n t (aU G.fields x)
    else if k=27 then gV r n t (aU G.globals x)
    else if k=19 then gV r n t ((aU G.globals x).filter fun j=>decide (jM G j=5))
    else if k=9/\dM x=false then gV r n t ((aU G.globals x).filter fun j=>decide (jM G j=3))
    else r
   eu G inside kids 0 kids.length s r1
def eu(G:bC)(inside:Bool):List ae->Nat->Nat->aS->RS->RS×aS
 | [],_,_,s,r=>(r,s)
 | _::ts,from_+1,n,s,r=>eu G inside ts from_ n s r
 | _::_,0,0,s,r=>(r,s)
 | t::ts,0,n+1,s,r=>
  let q:=F6 G inside t s r
  eu G inside ts 0 n q.2 q.1
end
theorem Ww(G:bC)(i:Bool)(k:Int)(x:ByteArray)(a e:Int)(A:List ae)(s:aS)(r:RS):F6 G i (.node k x a e A) s r=
 if k=3 then eu G i A 0 A.length s { aW (aG r i (mO (ay s))) 0 r.next (.node k x a e A) (decide ((aU G.globals x).getD 0≠(r.next:Int))) with owner:=(r.next:Int) }
 else if k=4 then eu G i A 0 A.length s (aW (aG r i (mO (ay s))) 1 r.next (.node k x a e A) (decide ((aU G.fields x).getD 0≠(r.next:Int))))
 else if k=5 then((eu G true A 2 1 ([]::(eu G false A 0 2 [[]] { aW (aG r i (mO (ay s))) 2 r.next (.node k x a e A) (decide ((aU G.globals x).getD 0≠(r.next:Int))) with owner:=(r.next:Int) }).2) (eu G false A 0 2 [[]] { aW (aG r i (mO (ay s))) 2 r.next (.node k x a e A) (decide ((aU G.globals x).getD 0≠(r.next:Int))) with owner:=(r.next:Int) }).1).1,s)
 else if k=7\/k=8 then eu G i A 0 A.length (aH G (aG r i (mO (ay s))) 3 r.next (.node k x a e A) s).2 (aH G (aG r i (mO (ay s))) 3 r.next (.node k x a e A) s).1
 else if k=11 then((eu G i A 0 A.length ([]::s) (aG r i (mO (ay s)))).1,(eu G i A 0 A.length ([]::s) (aG r i (mO (ay s)))).2.tail)
 else if k=12 then((eu G i A 0 2 s (aH G (aG r i (mO (ay s))) 4 r.next (.node k x a e A) ([]::s)).1).1,kT (eu G i A 0 2 s (aH G (aG r i (mO (ay s))) 4 r.next (.node k x a e A) ([]::s)).1).2 ((aH G (aG r i (mO (ay s))) 4 r.next (.node k x a e A) ([]::s)).2.headD []))
 else if k=16 then((eu G i A 2 1 ((aH G (aG r i (mO (ay s))) 5 r.next (.node k x a e A) ([]::s)).2.headD []::(eu G i A 0 2 s (aH G (aG r i (mO (ay s))) 5 r.next (.node k x a e A) ([]::s)).1).2) (eu G i A 0 2 s (aH G (aG r i (mO (ay s))) 5 r.next (.node k x a e A) ([]::s)).1).1).1,
  (eu G i A 2 1 ((aH G (aG r i (mO (ay s))) 5 r.next (.node k x a e A) ([]::s)).2.headD []::(eu G i A 0 2 s (aH G (aG r i (mO (ay s))) 5 r.next (.node k x a e A) ([]::s)).1).2) (eu G i A 0 2 s (aH G (aG r i (mO (ay s))) 5 r.next (.node k x a e A) ([]::s)).1).1).2.tail)
 else eu G i A 0 A.length s (iR G s r (aG r i (mO (ay s))) (.node k x a e A)):=by
 rw[F6];rfl
mutual
theorem Oj(G:bC):∀(t:ae) (i:Bool) (s:aS) (r:RS),F6 G i t s r=aM G i t s r
 | .node k x a e kids,i,s,r=>by
  have A:∀i f n s r,eu G i kids f n s r=ah G i kids f n s r:=fun i f n s r=>Et G kids i f n s r
  rw[dx,Ww];simp only[A,sortK_eq]
theorem Et(G:bC):∀(ts:List ae) (i:Bool) (f n:Nat) (s:aS) (r:RS),eu G i ts f n s r=ah G i ts f n s r
 | [],i,f,n,s,r=>by rw[eu,ah]
 | t::ts,i,f+1,n,s,r=>by rw[eu,ah];exact Et G ts i f n s r
 | t::ts,i,0,0,s,r=>by rw[eu,ah]
 | t::ts,i,0,n+1,s,r=>by
  rw[eu,ah];rw[Oj G t i s r];exact Et G ts i 0 n _ _
end
def JX(t:ae):RS:=
 let r:=(F6 (dO t) false t [] ⟨[],List.replicate (ai t) (-1),[],[],0,0⟩).1
 { r with uses:=r.uses.map (oG r.ds),aR:=r.aR.map fun x=>(x.1,x.2.map (oG r.ds)) }
theorem Uq(t:ae):JX t=dZ t:=by
 unfold JX dZ;rw[Oj]
def Rq(r:RS)(k:Nat)(x:ae):Bool:=
 (!(decide (x.kind=20)&&(x.text.data.toList==[120])) || (decide (r.uses[k]? =some 1)&&decide ((bE r.aR (k:Int)).getD []=[1])))&&(!decide (x.kind=19) || decide ((bE r.aR (k:Int)).getD []=[1,2]))
def Iy(r:RS):List ae->Nat->Bool
 | [],_=>true
 | x::l,k=>Rq r k x&&Iy r l (k+1)
def Tm(t:ae)(ds:List Dg):Bool:=
 let r:=JX t
 decide (ds.length=0)&&jC t&&decide (r.aY.length=0)&&decide (r.ds.length=5)&&decide ((r.ds[2]?.map (·.name.data.toList))=some [121])&&decide ((r.ds[4]?.map (·.kind))=some 3)&&decide (r.uses.length=ai t)&&decide (ai t<=100)&&Iy r (bT t) 0
def M5(t:ae):Bool:=decide ((jd t [] []).map (·.data.toList)=[[97],[99],[100]])&&decide (ai t<=100)
theorem parse1:((tV 40 LM).map fun x=>Tm x.1 x.2)=some true:=by kernel_rfl
def check3:Option (List ae×PS)->Bool
 | some ([x],p)=>M5 x&&decide (bM (pY Io) p=5)
 | _=>false
theorem parse2:check3 (aP Io (pY Io) 30 .stmt ⟨0,0,[]⟩)=true:=by kernel_rfl
theorem parse2':∃x p,aP Io (pY Io) 30 .stmt ⟨0,0,[]⟩=some ([x],p)/\M5 x=true/\bM (pY Io) p=5:=by
 have h:=parse2;unfold check3 at h;split at h
 ·rename_i x p e
  rw[aad,decide_eq_true_eq]at h;exact⟨x,p,e,h.1,h.2⟩
 ·cases h
theorem Jc(f:Nat)(s:bB)(y:ae×List Dg)(h:tV f s=some y):tV (f+1) s=some y:=by
 unfold tV at h⊢
 cases A:mQ s (pY s) f ⟨0,0,[]⟩ [] with
 | none=>rw[A]at h;cases h
 | some q=>
  rw[Ao f _ _ q A];rw[A]at h;exact h
theorem parse1'{f:Nat}{t:ae}{ds:List Dg}(h:tV f LM=some (t,ds)):Tm t ds=true:=by
 have A:=parse1
 cases B:tV 40 LM with
 | none=>rw[B]at A;cases A
 | some y=>
  have D:=j4 (F:=fun f=>tV f LM) (fun f y h=>Jc f _ y h) (Nat.le_max_left f 40) h;have C:=j4 (F:=fun f=>tV f LM) (fun f y h=>Jc f _ y h) (Nat.le_max_right f 40) B;rw[D]at C;rw[B]at A;cases C
  simpa using A
theorem Mj{r:RS}:∀{l:List ae}{k:Nat},Iy r l k=true->∀{j:Nat}{x:ae},l[j]? =some x->Rq r (k+j) x=true
 | [],_,_,j,x,h=>by cases h
 | y::l,k,hk,j,x,h=>by
  rw[Iy,aad]at hk
  cases j with
  | zero=>
   simp only[aai,aag]at h;rw[<- h];exact hk.1
  | succ j=>
   rw[aaj]at h;have:=Mj hk.2 h;rw[show k+1+j=k+(j+1) by omega]at this;exact this
open Go.RowKit
theorem Bc.at_{E:World}{t:ae}{ds:List Dg}{e:Ending}{w':World}(h:Bc E t ds e w'):∃A c D dc,e= .returned (.tuple #[aZ t A c,.slice D ds.length dc,.int .i64 0])/\t.kids.length<=c/\aJ w' w'.heap.size A 0 t.kids/\aK w' E.heap.size 78 5 (.slice D ds.length dc) ds.length (ds.flatMap bO)/\Below E.heap.size E w':=by
 obtain⟨k,x,a,z,A,n,c,D,O,dc,K,H,J,L,I⟩:=h;have B:=aC.at_ t _ H;have C:=B.cap;obtain⟨M,N,F,G⟩:=B.five;simp only[List.cons.injEq,Value.int.injEq,Value.string.injEq,Value.slice.injEq,true_and,and_true]at F;obtain⟨rfl,rfl,rfl,rfl,rfl,rfl,rfl⟩:=F;subst J;exact⟨A,c,D,dc,K,C,G,L,I⟩
theorem iP.get{w:World}{B:Nat}:∀{ts:List ae}{F:List (List Value)},iP w B ts F->∀{j:Nat}{x:ae},ts[j]? =some x->∃C,ky w B x C/\∀q u,C[q]? =some u->(List.flatten F)[j*5+q]? =some u
 | [],_,_,j,x,h=>by cases h
 | t::ts,vs0,h0,j,x,h=>by
  obtain⟨v,F,rfl,G,H⟩:=h0;obtain⟨A,c,L,-⟩:=G.five;have K:v.length=5:=by rw[L];rfl
  cases j with
  | zero=>
   simp only[aai,aag]at h;subst h;refine⟨v,G,fun q u D=>?_⟩;have E:=(aah.1 D).1;rw[List.flatten_cons,Nat.zero_mul,Nat.zero_add,List.getElem?_append_left E];exact D
  | succ j=>
   rw[aaj]at h;obtain⟨C,I,J⟩:=iP.get H h;refine⟨C,I,fun q u D=>?_⟩;rw[List.flatten_cons,aal (by omega),K,show(j+1)*5+q - 5=j*5+q by omega];exact J q u D
theorem rowI_one{w:World}{b:Nat}(z:Int)(h:w.cell? ⟨b,0,none⟩=some (.int .i64 z))(C:b<w.heap.size):bU 1 gN w w.heap.size (some ⟨b,0,none⟩) [z]:=by
 intro k c B
 match k,B with
 | 0,B=>
  cases B
  refine⟨b,0,rfl,C,fun j v A=>?_⟩
  match j,A with
  | 0,A=>cases A;exact h
  | j+1,A=>simp[gN]at A
 | k+1,B=>simp at B
theorem rowI_two{w:World}{b:Nat}(y z:Int)(D:w.cell? ⟨b,0,none⟩=some (.int .i64 y))(E:w.cell? ⟨b,1,none⟩=some (.int .i64 z))(C:b<w.heap.size):bU 1 gN w w.heap.size (some ⟨b,0,none⟩) [y,z]:=by
 intro k c B
 match k,B with
 | 0,B=>
  cases B
  refine⟨b,0,rfl,C,fun j v A=>?_⟩
  match j,A with
  | 0,A=>cases A;exact D
  | j+1,A=>simp[gN]at A
 | 1,B=>
  cases B
  refine⟨b,0,rfl,C,fun j v A=>?_⟩
  match j,A with
  | 0,A=>cases A;exact E
  | j+1,A=>simp[gN]at A
 | k+2,B=>simp at B
theorem WK{w:World}{b:Nat}(x y z:ByteArray)(D:w.cell? ⟨b,0,none⟩=some (.string x))(E:w.cell? ⟨b,1,none⟩=some (.string y))(F:w.cell? ⟨b,2,none⟩=some (.string z))(C:b<w.heap.size):bU 1 bN w w.heap.size (some ⟨b,0,none⟩) [x,y,z]:=by
 intro k c B
 match k,B with
 | 0,B=>
  cases B
  refine⟨b,0,rfl,C,fun j v A=>?_⟩
  match j,A with
  | 0,A=>cases A;exact D
  | j+1,A=>simp[bN]at A
 | 1,B=>
  cases B
  refine⟨b,0,rfl,C,fun j v A=>?_⟩
  match j,A with
  | 0,A=>cases A;exact E
  | j+1,A=>simp[bN]at A
 | 2,B=>
  cases B
  refine⟨b,0,rfl,C,fun j v A=>?_⟩
  match j,A with
  | 0,A=>cases A;exact F
  | j+1,A=>simp[bN]at A
 | k+3,B=>simp at B
theorem Ky(l:List Int):iB l=l.flatMap gN:=by
 induction l with
 | nil=>rfl
 | cons a l ih=>rw[List.flatMap_cons,<- ih];rfl
theorem UH{t:ae}(h:M5 t=true):jd t [] []=[⟨#[97]⟩,⟨#[99]⟩,⟨#[100]⟩]/\ai t<=100:=by
 unfold M5 at h;rw[aad,decide_eq_true_eq,decide_eq_true_eq]at h;refine⟨?_,h.2⟩;have A:=h.1;generalize jd t [] []=l at A⊢
 match l,A with
 | [x,y,z],A=>
  simp only[List.map_cons,List.map_nil,List.cons.injEq,and_true]at A;rw[mY (a:=x) (b:=⟨#[97]⟩) (by rw[A.1]),mY (a:=y) (b:=⟨#[99]⟩) (by rw[A.2.1]),mY (a:=z) (b:=⟨#[100]⟩) (by rw[A.2.2])]
 | [],A=>cases A
 | [x],A=>simp at A
 | [x,y],A=>simp at A
 | x::y::z::u::l,A=>simp at A
theorem awake_any(w:World):Calls Tryz.prog 11 #[] w fun e w'=>e= .returned (.bool true)/\Below w.heap.size w w':=by
 have hp1:=fun w=>Zi ⟨#[112,114,111,99,32,102,40,120,41,123,118,97,114,32,121,61,120,59,103,40,121,41,59,125,112,114,111,99,32,103,40,122,41,123,125]⟩ w (by decide)
 obtain⟨t2,p2,hs1,hs2,hs3⟩:=parse2';have hp2:=fun w=>PO ⟨#[105,102,32,97,32,123,32,118,97,114,32,98,32,61,32,99,59,32,100,32,61,32,98,59,32,125]⟩ w (by decide) 30 t2 p2 hs1 hs3
 have Cb:=kH hp1;have zH:=kH hp2;have HS2:=kH hs2;clear hp1 hp2 hs1 hs2 hs3;go_in
 go_wp2_with fail
 refine(Cb.out _).mono ?_;rintro e1 F ⟨f,t,ds,hpm,htd⟩;have hck:=parse1' hpm;obtain⟨A,c,DA,dc,rfl,z,hk,hod,hb1⟩:=htd.at_;unfold Tm at hck;simp only[aad,decide_eq_true_eq,Uq]at hck;obtain⟨⟨⟨⟨⟨⟨⟨⟨hd0,hval⟩,hpr⟩,hds⟩,hdn⟩,hdk⟩,ZK⟩,hcn⟩,hnok⟩:=hck;rw[hd0];obtain⟨k0,x0,a0,z0,n0,-,-,-,-,hn0,jw⟩:=dR t A c;rw[jw];have b:=fun W (hb:Below F.heap.size F W)=>UL t A c W (by omega) z (aJ.mono hb.size _ _ _ (aJ.below hb (aab _) _ _ _ hk))
 rw[jw]at b;have aN:=kH b;have HB1:=kH hb1;have HCAP:=kH z;have HK:=kH hk;have NW:=kH hval;have qW:=kH hpr;have HDS:=kH hds;have HDN:=kH hdn;have HDK:=kH hdk;have Ps:=kH ZK;have Ua:=kH hcn;have HNOK:=kH hnok;have FU:=kH jw;clear hpm htd hod hd0 hval hpr hds hdn hdk ZK hcn hnok jw b hb1 z hk hn0;go_wp2_with fail
 obtain⟨nb,hnb⟩:∃q,F.heap.size=q:=⟨_,rfl⟩
 obtain⟨W1,hW1⟩:∃W1,F.alloc (.cells #[.int .i64 k0,.string x0,.int .i64 a0,.int .i64 z0,.slice A n0 c] 24)=W1:=⟨_,rfl⟩
 rw[hW1];have B:Below F.heap.size F W1:=by rw[<- hW1];exact ag _ _
 have FH:aj W1 F.heap.size 24 #[.int .i64 k0,.string x0,.int .i64 a0,.int .i64 z0,.slice A n0 c]:=by rw[<- hW1];exact aj.new _ _ _
 have Z:=aN.out W1 B;have HC:=kH Z;have En:=kH FH;have mJ:=kH B;rw[hnb]at En;clear Z FH B hW1;refine HC.out.mono ?_;rintro e2 G h2;rcases h2 with⟨hf,-⟩| ⟨-,E,V,Aw,nw,cw,rfl,FI,hR,hnw,how,hb2⟩
 ·rw[NW.out]at hf
  cases hf
 rw[qW.out]at hnw;subst hnw;rw[HDS.out,Ps.out];obtain⟨N,hN⟩:∃q,ai t=q:=⟨_,rfl⟩
 rw[hN]
 obtain⟨d2,hd2,r⟩:∃d,(dZ t).ds[2]? =some d/\d.name.data.toList=[121]:=by
  have:=HDN.out
  cases h:(dZ t).ds[2]? with
  | none=>rw[h]at this;cases this
  | some d=>rw[h]at this;exact⟨d,rfl,by simpa using this⟩
 obtain⟨d4,hd4,hd4k⟩:∃d,(dZ t).ds[4]? =some d/\d.kind=3:=by
  have:=HDK.out
  cases h:(dZ t).ds[4]? with
  | none=>rw[h]at this;cases this
  | some d=>rw[h]at this;exact⟨d,rfl,by simpa using this⟩
 have hrow:=hR.ds.rowAt (cells:=dL) (l:=(dZ t).ds) rfl rfl (fun _ _=>rfl) rfl;obtain⟨M,U,Sw,hdl,hdc⟩:=hrow 2 d2 hd2;obtain⟨db',doff',n,-,hdc'⟩:=hrow 4 d4 hd4;rw[Sw]at n;simp only[aag,Addr.mk.injEq,and_true]at n;obtain⟨rfl,rfl⟩:=n;rw[Sw];have hc2:=hdc 1 _ rfl;have hc4:=hdc' 0 _ rfl;rw[hd4k]at hc4;obtain⟨yn,hyn⟩:∃q,d2.name=q:=⟨_,rfl⟩
 rw[hyn]at hc2 r;have hyt:yn.toList=[121]:=by rw[ByteArray.toList_eq];exact r
 obtain⟨uA,huA⟩:∃q,E.uA=q:=⟨_,rfl⟩
 obtain⟨uc,Q⟩:∃q,E.uc=q:=⟨_,rfl⟩
 obtain⟨dc2,hdc2⟩:∃q,V.dc=q:=⟨_,rfl⟩
 rw[huA,Q,hdc2];have nD:=hR.us;rw[Ps.out,hN,huA,Q]at nD;have qC:=kH nD;have vQ:=kH hN;have vS:Hid (G.cell? ⟨M,U+9,none⟩=some (.string yn)/\G.cell? ⟨M,U+16,none⟩=some (.int .i64 3)/\M<G.heap.size):=kH ⟨by simpa using hc2,by simpa using hc4,hdl⟩;have YI:=kH (En.out.below hb2 En.out.lt);have HB2:Hid (Below F.heap.size F G):=kH (mJ.out.trans (hb2.mono mJ.out.size));have hNm:N<=100:=by rw[<- hN];exact Ua.out
 clear FI hR how hb2 hd2 r hd4 hd4k hrow Sw hdc hdc' hdl hc2 hc4 hyn huA Q hdc2 nD hN HC;go_wp2_with fail
 obtain⟨rb,hrb⟩:∃q,G.heap.size=q:=⟨_,rfl⟩
 obtain⟨W2,hW2⟩:∃W2,G.alloc (.cells #[.slice (some ⟨M,U,none⟩) 5 dc2,.slice uA N uc] 30)=W2:=⟨_,rfl⟩
 rw[hW2];have B:Below G.heap.size G W2:=by rw[<- hW2];exact ag _ _
 have hRW:aj W2 G.heap.size 30 #[.slice (some ⟨M,U,none⟩) 5 dc2,.slice uA N uc]:=by rw[<- hW2];exact aj.new _ _ _
 rw[hrb]at hRW;have HRW:=kH hRW;have DC:=kH B;clear B hRW hW2;refine(zH.out W2).mono ?_;rintro e3 R htd;obtain⟨A2,c2,DA2,dc3,rfl,hcap2,hk2,hod2,hb3⟩:=htd.at_;obtain⟨m0,y0,b0,f0,q0,-,-,-,-,-,j⟩:=dR t2 A2 c2;rw[j];obtain⟨nd2,hnd2⟩:∃q,(ig (iJ (ByteArray.mk #[105,102,32,97,32,123,32,118,97,114,32,98,32,61,32,99,59,32,100,32,61,32,98,59,32,125]).data.toList) p2.ds).length=q:=⟨_,rfl⟩
 rw[hnd2];have HNV2:=kH j;have JJ:=kH hk2;have JN:Hid (Below F.heap.size F R):=kH ((HB2.out.trans (DC.out.mono HB2.out.size)).trans (hb3.mono (aac HB2.out.size DC.out.size)));have YM:Hid (Below G.heap.size G R):=kH (DC.out.trans (hb3.mono DC.out.size));have HR3:=kH (HRW.out.below hb3 HRW.out.lt);clear htd hod2 hb3 hcap2 hk2 j hnd2;go_wp2_with fail
 obtain⟨sb,hsb⟩:∃q,R.heap.size=q:=⟨_,rfl⟩
 obtain⟨J,hW3⟩:∃J,R.alloc (.cells #[.int .i64 m0,.string y0,.int .i64 b0,.int .i64 f0,.slice A2 q0 c2] 24)=J:=⟨_,rfl⟩
 rw[hW3];have B:Below R.heap.size R J:=by rw[<- hW3];exact ag _ _
 have hSW:aj J R.heap.size 24 #[.int .i64 m0,.string y0,.int .i64 b0,.int .i64 f0,.slice A2 q0 c2]:=by rw[<- hW3];exact aj.new _ _ _
 rw[hsb]at hSW;have HSW:=kH hSW;have YK:=kH B;have Qk:Hid (Below G.heap.size G J):=kH (YM.out.trans (B.mono YM.out.size));have YH:=kH ((YI.out.below YM.out YI.out.lt).below B (YI.out.below YM.out YI.out.lt).lt);have YD:=kH (HR3.out.below B HR3.out.lt);have nU:Hid (Below F.heap.size F J):=kH (JN.out.trans (B.mono JN.out.size))
 have jy:∀w':World,Below J.heap.size J w'->(Below J.heap.size J w'/\w'.cell? ⟨rb,0,none⟩=some (.slice (some ⟨M,U,none⟩) 5 dc2)/\w'.cell? ⟨rb,1,none⟩=some (.slice uA N uc)/\w'.cell? ⟨M,U+9,none⟩=some (.string yn)/\w'.cell? ⟨M,U+16,none⟩=some (.int .i64 3)/\w'.cell? ⟨nb,0,none⟩=some (.int .i64 k0)/\w'.cell? ⟨nb,1,none⟩=some (.string x0)/\w'.cell? ⟨nb,2,none⟩=some (.int .i64 a0)/\w'.cell? ⟨nb,3,none⟩=some (.int .i64 z0)/\w'.cell? ⟨nb,4,none⟩=some (.slice A n0 c)):=fun w' hb=>by
  have b1:=YH.out.below hb YH.out.lt;have b2:=YD.out.below hb YD.out.lt;have hbz:Below G.heap.size G w':=Qk.out.trans (hb.mono Qk.out.size);exact⟨hb,b2.cell 0,b2.cell 1,(hbz.cell (p:=⟨M,U+9,none⟩) vS.out.2.2).trans vS.out.1,(hbz.cell (p:=⟨M,U+16,none⟩) vS.out.2.2).trans vS.out.2.1,b1.cell 0,b1.cell 1,b1.cell 2,b1.cell 3,b1.cell 4⟩
 have eY:=kH jy;have u:=fun W (hb:Below J.heap.size J W)=>AQ (ai t) t A c W (aab _) (by have:=Ua.out;omega) (aJ.mono (aac nU.out.size hb.size) _ _ _ (aJ.below (nU.out.trans (hb.mono nU.out.size)) (aab _) _ _ _ HK.out))
 rw[FU.out,vQ.out]at u;have YJ:=kH u;clear B hSW jy u hW3;refine dD (fun w'=>Below J.heap.size J w'/\w'.cell? ⟨rb,0,none⟩=some (.slice (some ⟨M,U,none⟩) 5 dc2)/\w'.cell? ⟨rb,1,none⟩=some (.slice uA N uc)/\w'.cell? ⟨M,U+9,none⟩=some (.string yn)/\w'.cell? ⟨M,U+16,none⟩=some (.int .i64 3)/\w'.cell? ⟨nb,0,none⟩=some (.int .i64 k0)/\w'.cell? ⟨nb,1,none⟩=some (.string x0)/\w'.cell? ⟨nb,2,none⟩=some (.int .i64 a0)/\w'.cell? ⟨nb,3,none⟩=some (.int .i64 z0)/\w'.cell? ⟨nb,4,none⟩=some (.slice A n0 c)) [] [true,true,true,true,true,true,true,true,true,true,true,true,true,true,true,true,true,true,true,true,true,true,true,true,true,true,true,true,true,true,true,true,true,true,false,true,true] (by kernel_rfl) (by kernel_rfl) rfl (by kernel_rfl) ?_;have P:=eY.out J.drew ((Below.refl _ _).drew);iterate 34((first|(refine dB (by rfl) P ?_)|(refine bV (by rfl) P (by intro w' hSw;obtain⟨-,hs1,hs2,hs3,hs4,hs5,hs6,hs7,jH,FB⟩:=hSw;go_simp;rfl) ?_));simp only[Act.put,sA,sZ,sC])
 refine eH (by rfl) (by go_simp) ((YJ.out _ P.1).mono ?_);rintro e5 w5 ⟨rfl,hb5⟩;have C:=eY.out w5 (P.1.trans (hb5.mono P.1.size));refine⟨_,rfl,fun _=>C,?_⟩;iterate 2(simp only[Act.put,sA,sZ,sC];(first|(refine dB (by rfl) C ?_)|(refine bV (by rfl) C (by intro w' hSw;obtain⟨-,hs1,hs2,hs3,hs4,hs5,hs6,hs7,jH,FB⟩:=hSw;go_simp;rfl) ?_)))
 simp only[Act.put,sA,sZ,sC];refine gJ ?_;have gG:Hid (Below F.heap.size F w5):=kH (nU.out.trans (C.1.mono nU.out.size));have HB52:Hid (Below G.heap.size G w5):=kH (Qk.out.trans (C.1.mono Qk.out.size));have HB53:Hid (Below R.heap.size R w5):=kH (YK.out.trans (C.1.mono YK.out.size));have Hw:=kH (YH.out.below C.1 YH.out.lt);have HRW5:=kH (YD.out.below C.1 YD.out.lt);have HSW5:=kH (HSW.out.below C.1 HSW.out.lt);have u0:=Hw.out.cell 0;have u1:=Hw.out.cell 1;have u2:=Hw.out.cell 2;have u3:=Hw.out.cell 3;have u4:=Hw.out.cell 4;have lu:=Hw.out.lt;have m:=ED (ai t) t A c w5 w5.heap.size (aab _) (aab _) (by have:=Ua.out;omega) HCAP.out (aJ.mono gG.out.size _ _ _ (aJ.below gG.out (aab _) _ _ _ HK.out));rw[FU.out]at m;have HNOD:=kH m;clear P C hb5 m;go_wp2_with fail
 clear u0 u1 u2 u3 u4 lu;refine HNOD.out.mono ?_;rintro e6 S ⟨v6,n6,vals,rfl,FC,Vd,hva,K⟩;obtain⟨A6,c6,hv6,-,-⟩:=Vd.shape;subst hv6;have hn6N:n6=N:=by rw[FC,iY,vQ.out]
 subst hn6N;have El:=kH Vd;have HVA:=kH hva;have nI:Hid (Below F.heap.size F S):=kH (gG.out.trans (K.mono gG.out.size));have HB62:Hid (Below G.heap.size G S):=kH (HB52.out.trans (K.mono HB52.out.size));have HB63:Hid (Below R.heap.size R S):=kH (HB53.out.trans (K.mono HB53.out.size));have HNW6:=kH (Hw.out.below K Hw.out.lt);have HRW6:=kH (HRW5.out.below K HRW5.out.lt);have HSW6:=kH (HSW5.out.below K HSW5.out.lt);have HN6:=kH FC;clear Vd hva K FC HNOD;go_wp2_with fail
 go_loopg [68] n6 (fun gk s68 wr=> ∃k:Nat,s68= .int .i64 (k:Int)/\k+gk=n6/\Hid (Below S.heap.size S wr))
 case atStart=>exact⟨0,rfl,by omega,kH (Below.refl _ _)⟩
 case round=>
  obtain⟨k,rfl,ZR,HB⟩:=hrel;have N8:=kH (HNW6.out.below HB.out HNW6.out.lt);have HRWr:=kH (HRW6.out.below HB.out HRW6.out.lt);have NY:=kH (HSW6.out.below HB.out HSW6.out.lt);by_cases hlt:k<n6
  ·have hlt':(k:Int)<(n6:Int):=by omega
   have hw:IntKind.i64.wrap ((k:Int)+1)=(k:Int)+1:=IntWalk.i64_in _ (by omega);obtain⟨x,hx⟩:∃x,(bT t)[k]? =some x:=⟨_,aaf (by rw[<- HN6.out];exact hlt)⟩
   obtain⟨cs,hT,hfl⟩:=iP.get HVA.out hx;obtain⟨A',c',hcs,-⟩:=hT.five;subst hcs;obtain⟨bk,I,cap,hv,-,-,-,hbk,y⟩:=(El.out.below HB.out (fun g hg=>(El.out.lt g hg).2)).form (by omega);simp only[Value.slice.injEq,true_and]at hv;obtain⟨rfl,rfl⟩:=hv;obtain⟨xk,hxk⟩:∃q,x.kind=q:=⟨_,rfl⟩
   obtain⟨xt,hxt⟩:∃q,x.text=q:=⟨_,rfl⟩
   obtain⟨xa,hxa⟩:∃q,x.at_=q:=⟨_,rfl⟩
   obtain⟨xz,hxz⟩:∃q,x.end_=q:=⟨_,rfl⟩
   obtain⟨xn,hxn⟩:∃q,x.kids.length=q:=⟨_,rfl⟩
   have D:∀q v,[Value.int .i64 xk,.string xt,.int .i64 xa,.int .i64 xz,.slice A' xn c'][q]? =some v->wr.cell? ⟨bk,I+k*5+q,none⟩=some v:=fun q v hq=>by
    have:=y _ _ (hfl q v (by rw[hxk,hxt,hxa,hxz,hxn];exact hq));rw[show I+(k*5+q)=I+k*5+q by omega]at this;exact this
   have t0:wr.cell? ⟨bk,I+k*5,none⟩=some (.int .i64 xk):=by simpa using D 0 _ rfl
   have t1:wr.cell? ⟨bk,I+k*5+1,none⟩=some (.string xt):=by simpa using D 1 _ rfl
   have t2':wr.cell? ⟨bk,I+k*5+2,none⟩=some (.int .i64 xa):=by simpa using D 2 _ rfl
   have t3:wr.cell? ⟨bk,I+k*5+3,none⟩=some (.int .i64 xz):=by simpa using D 3 _ rfl
   have t4:wr.cell? ⟨bk,I+k*5+4,none⟩=some (.slice A' xn c'):=by simpa using D 4 _ rfl
   have H:=Mj HNOK.out hx;rw[Nat.zero_add]at H;unfold Rq at H;rw[hxk,hxt,aad]at H;have zK:Hid (Below S.heap.size S (wr.alloc (.cells #[.int .i64 xk,.string xt,.int .i64 xa,.int .i64 xz,.slice A' xn c'] 24))):=kH (HB.out.trans ((ag wr _).mono HB.out.size));have yK:=JE t A c (k:Int) (wr.alloc (.cells #[.int .i64 xk,.string xt,.int .i64 xa,.int .i64 xz,.slice A' xn c'] 24)) (by have:=Ua.out;omega) HCAP.out (aJ.mono (aac nI.out.size zK.out.size) _ _ _ (aJ.below (nI.out.trans (zK.out.mono nI.out.size)) (aab _) _ _ _ HK.out));rw[FU.out]at yK;have HVIS:=kH yK;have ZJ:eD t (k:Int)=(bE (dZ t).aR (k:Int)).getD []:=by unfold eD;rw[if_pos NW.out]
   have p0:=N8.out.cell 0;have p1:=N8.out.cell 1;have p2':=N8.out.cell 2;have p3:=N8.out.cell 3;have p4:=N8.out.cell 4;have lp:=N8.out.lt;have r1:=HRWr.out.cell 1;have lr:=HRWr.out.lt;clear hx hT hfl y hxk hxt hxa hxz hxn D yK;by_cases hA:xk=20/\xt.toList=[120]
   ·obtain⟨rfl,hxt2⟩:=hA
    have h1:=H.1;rw[ByteArray.toList_eq]at hxt2;rw[hxt2]at h1;simp only[decide_true,beq_self_eq_true,Bool.and_self,Bool.not_true,Bool.false_or,aad,decide_eq_true_eq]at h1;rw[<- ByteArray.toList_eq]at hxt2;have HVV:Hid (eD t (k:Int)=[1]):=kH (by rw[ZJ];exact h1.2);obtain⟨ub,uo,ucap,huv,-,-,-,hub,Q⟩:=(qC.out.below (HB62.out.trans (HB.out.mono HB62.out.size)) (fun g hg=>(qC.out.lt g hg).2)).form (by omega);simp only[Value.slice.injEq,true_and]at huv;obtain⟨rfl,rfl⟩:=huv;have cu:wr.cell? ⟨ub,uo+k,none⟩=some (.int .i64 1):=Q k _ (by unfold iB;rw[List.getElem?_map,h1.1];rfl);clear H h1 ZJ Q;go_wp2_with fail
    refine HVIS.out.mono ?_;rintro e7 w7 ⟨v7,rfl,T,dF⟩;rw[show eD t (k:Int)=[1] from HVV.out]at T;obtain⟨Av,cv,hv7,-,-⟩:=T.shape;subst hv7;have wW:=kH T;have gK:=kH dF;clear T dF;go_wp2_with fail
    refine(TD Av (some ⟨w7.heap.size,0,none⟩) 1 1 cv 1 [1] [1] _ (((wW.out.rowAt (cells:=gN) (l:=[1]) rfl (Ky _) (fun _ _=>rfl) rfl).below (ag _ _) (aab _)).mono (by simp)) (rowI_one 1 (by go_simp) (by simp)) rfl rfl (by omega)).mono ?_;rintro e8 w8 ⟨rfl,dU⟩;have vE:Hid (Below S.heap.size S w8):=kH ((zK.out.trans (gK.out.mono zK.out.size)).trans (((ag w7 _).trans (dU.mono (by simp))).mono (aac zK.out.size gK.out.size)));have Y:=((((aj.new wr 24 #[.int .i64 20,.string xt,.int .i64 xa,.int .i64 xz,.slice A' xn c']).below gK.out (by simp)).alloc (.cells #[.int .i64 1] 3)).below dU (by have:=gK.out.size;simp at this⊢;omega))
    have x8:=Y.cell 0;have lx8:=Y.lt;simp only[decide_true];clear dU Y;go_wp2_with fail
    go_roundg (gk - 1)
    case measure=>omega
    case rel=>exact⟨k+1,by simp,by omega,vE⟩
   ·by_cases hBk:xk=19
    ·subst hBk
     have h1:=H.2;simp only[decide_true,Bool.not_true,Bool.false_or,decide_eq_true_eq]at h1;have HVV:Hid (eD t (k:Int)=[1,2]):=kH (by rw[ZJ];exact h1);clear H h1 ZJ hA;go_wp2_with fail
     refine HVIS.out.mono ?_;rintro e7 w7 ⟨v7,rfl,T,dF⟩;rw[show eD t (k:Int)=[1,2] from HVV.out]at T;obtain⟨Av,cv,hv7,-,-⟩:=T.shape;subst hv7;have wW:=kH T;have gK:=kH dF;clear T dF;go_wp2_with fail
     refine(TD Av (some ⟨w7.heap.size,0,none⟩) 2 2 cv 2 [1,2] [1,2] _ (((wW.out.rowAt (cells:=gN) (l:=[1,2]) rfl (Ky _) (fun _ _=>rfl) rfl).below (ag _ _) (aab _)).mono (by simp)) (rowI_two 1 2 (by go_simp) (by go_simp) (by simp)) rfl rfl (by omega)).mono ?_;rintro e8 w8 ⟨rfl,dU⟩;have vE:Hid (Below S.heap.size S w8):=kH ((zK.out.trans (gK.out.mono zK.out.size)).trans (((ag w7 _).trans (dU.mono (by simp))).mono (aac zK.out.size gK.out.size)));simp only[decide_true];clear dU;go_wp2_with fail
     go_roundg (gk - 1)
     case measure=>omega
     case rel=>exact⟨k+1,by simp,by omega,vE⟩
    ·have hf19:(xk==19)=false:=by simp[hBk]
     clear H ZJ;have Uc:Hid (Below S.heap.size S (wr.alloc (.cells #[.int .i64 xk,.string xt,.int .i64 xa,.int .i64 xz,.slice A' xn c'] 24))):=zK;by_cases O:xk=20
     ·have hx2:(xt.toList==[120])=false:=by
       rw[beq_eq_false_iff_ne];exact fun h=>hA ⟨O,h⟩
      have hx3:¬xt.toList=[120]:=fun h=>hA ⟨O,h⟩
      have EO:(xk==20)=true:=by simp[O]
      clear hA O hBk;go_wp2_with fail
      go_roundg (gk - 1)
      case measure=>omega
      case rel=>exact⟨k+1,by simp,by omega,Uc⟩
     ·have EO:(xk==20)=false:=by simp[O]
      clear hA O hBk;go_wp2_with fail
      go_roundg (gk - 1)
      case measure=>omega
      case rel=>exact⟨k+1,by simp,by omega,Uc⟩
  ·have hkn:k=n6:=by omega
   subst hkn;have hge:¬((k:Int)<(k:Int)):=by omega
   have s0:=NY.out.cell 0;have s1:=NY.out.cell 1;have s2:=NY.out.cell 2;have s3:=NY.out.cell 3;have s4:=NY.out.cell 4;have ls:=NY.out.lt;obtain⟨hfr,hcn2⟩:=UH HS2.out;have X:Below R.heap.size R wr:=HB63.out.trans (HB.out.mono HB63.out.size);have L:=Ud t2 A2 c2 wr (by omega) (aJ.mono X.size _ _ _ (aJ.below X (aab _) _ _ _ JJ.out));rw[HNV2.out,hfr]at L;have HFR:=kH L;clear L hfr X hcn2;go_wp2_with fail
   refine HFR.out.mono ?_;rintro e7 w7 ⟨v7,rfl,T,dF⟩;obtain⟨Av,cv,hv7,-,-⟩:=T.shape;subst hv7;have wW:=kH T;have gK:Hid (Below F.heap.size F w7):=kH ((nI.out.trans (HB.out.mono nI.out.size)).trans (dF.mono (aac nI.out.size HB.out.size)));clear T dF s0 s1 s2 s3 s4 ls;go_wp2_with fail
   refine(Pp Av (some ⟨w7.heap.size,0,none⟩) 3 3 cv 3 [⟨#[97]⟩,⟨#[99]⟩,⟨#[100]⟩] [⟨#[97]⟩,⟨#[99]⟩,⟨#[100]⟩] _ (((wW.out.rowAt (cells:=bN) (l:=[⟨#[97]⟩,⟨#[99]⟩,⟨#[100]⟩]) rfl rfl (fun _ _=>rfl) rfl).below (ag _ _) (aab _)).mono (by simp)) (WK _ _ _ (by go_simp) (by go_simp) (by go_simp) (by simp)) rfl rfl (by omega)).mono ?_;rintro e8 w8 ⟨rfl,dU⟩;have vE:Hid (Below w.heap.size w w8):=kH (HB1.out.trans ((gK.out.trans (((ag w7 _).trans (dU.mono (by simp))).mono gK.out.size)).mono HB1.out.size));simp only[decide_true];clear dU;go_wp2_with fail
   go_ret
   exact⟨rfl,vE.out⟩
end Go.Proofs.YtoepemlnlpamlaaGreat
