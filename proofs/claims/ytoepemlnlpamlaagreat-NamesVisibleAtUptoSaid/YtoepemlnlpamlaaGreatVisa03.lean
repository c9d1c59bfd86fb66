/- The law NamesVisibleAt holds where what it reads is of bulk at most 1048576: it returns true, and its arguments read as before. Part 3: Since Lex LexS LexT. -/
import Derived.Maps.Own
import Derived.Lib.Strings
import Derived.Test.YtoepemlnlpamlaaGreatVisa01
import Derived.Test.YtoepemlnlpamlaaGreatVisa02
set_option maxRecDepth 100000
set_option maxHeartbeats 4000000
namespace Go.Proofs.YtoepemlnlpamlaaGreat
open Go.RowKit
structure aF (S:Nat->Prop) (w w':World):Prop where
 os:w'.os=w.os
 tape:w'.tape=w.tape
 output:w'.output=w.output
 size:w.heap.size<=w'.heap.size
 block:∀k,k<w.heap.size->¬S k->w'.heap[k]? =w.heap[k]?
section
variable {S:Nat->Prop}{a w w':World}
theorem aF.refl(S:Nat->Prop)(w:World):aF S w w:=⟨rfl,rfl,rfl,aab _,fun _ _ _=>rfl⟩
theorem aF.trans{b c:World}(h:aF S a b)(k:aF S b c):aF S a c:=
 ⟨k.os.trans h.os,k.tape.trans h.tape,k.output.trans h.output,aac h.size k.size,fun i A B=>(k.block i (Nat.lt_of_lt_of_le A h.size) B).trans (h.block i A B)⟩
theorem aF.drew(h:aF S a w):aF S a w.drew:=⟨h.os,h.tape,h.output,h.size,h.block⟩
theorem aF.alloc(h:aF S a w)(o:Obj):aF S a (w.alloc o):=
 ⟨h.os,h.tape,h.output,aac h.size (by simp),fun i A B=>(Below.heap_alloc w o i (Nat.lt_of_lt_of_le A h.size)).trans (h.block i A B)⟩
theorem aF.setCell(h:aF S a w){p:Addr}(A:S p.block\/a.heap.size<=p.block)(u:Value):aF S a (w.setCell p u):=
 ⟨h.os,h.tape,h.output,by simpa [World.setCell] using h.size,fun i C B=>(Below.heap_setCell w p u i (by
  rintro rfl;rcases A with A|A
  ·exact B A
  ·omega)).trans (h.block i C B)⟩
theorem aF.grown{B:Option Nat}(h:aF S a w)(A:w.grownBy w' B)(F:∀k,B=some k->S k\/a.heap.size<=k):aF S a w':=
 ⟨A.os.trans h.os,A.tape.trans h.tape,A.output.trans h.output,aac h.size A.size,fun i D E=>(A.block i (Nat.lt_of_lt_of_le D h.size) (fun e=>by
  rcases F i e.symm with C|C
  ·exact E C
  ·omega)).trans (h.block i D E)⟩
theorem aF.below(h:aF S a w)(A:Below w.heap.size w w'):aF S a w':=
 ⟨A.os.trans h.os,A.tape.trans h.tape,A.output.trans h.output,aac h.size A.size,fun i B C=>(A.block i (Nat.lt_of_lt_of_le B h.size)).trans (h.block i B C)⟩
theorem aF.toBelow{B:Nat}(h:aF S a w)(D:B<=a.heap.size)(A:∀k,S k->B<=k):Below B a w:=
 ⟨h.os,h.tape,h.output,h.size,fun i E=>h.block i (by omega) (fun C=>by have:=A i C;omega)⟩
theorem aF.mono{A:Nat->Prop}(h:aF S a w)(C:∀k,S k->A k):aF A a w:=⟨h.os,h.tape,h.output,h.size,fun i D E=>h.block i D (fun B=>E (C i B))⟩
theorem aj.since{g:Nat}{t:TypeId}{A:Array Value}(h:aj w g t A)(C:aF S w w')(B:¬S g):aj w' g t A:=h.keep (C.block g h.lt B)
theorem aK.since{base:Nat}{e:TypeId}{size:Nat}{v:Value}{n:Nat}{B:List Value}(h:aK w base e size v n B)(D:aF S w w')(C:∀g,v.ownBlock=some g->¬S g):aK w' base e size v n B:=
 h.of_block fun g A=>D.block g (h.lt g A).2 (C g A)
end
theorem aK.apart{w:World}{base base':Nat}{e J:TypeId}{size C:Nat}{v L:Value}{n N:Nat}{O G:List Value}(h:aK w base e size v n O)(M:aK w base' J C L N G)(E:e≠J):
 ∀g,v.ownBlock=some g->L.ownBlock≠some g:=by
 intro g F B;rcases h.2 with⟨rfl,_⟩| ⟨U,R,T,Q,rfl,_,D,_⟩
 ·cases F
 ·rcases M.2 with⟨rfl,_⟩| ⟨V,K,H,I,rfl,_,A,_⟩
  ·cases B
  ·simp[Value.ownBlock]at F B
   subst F;subst B;rw[D]at A;simp at A;exact E A.2
theorem aF.step{S A:Nat->Prop}{a b c:World}(h:aF S a b)(k:aF A b c)(F:∀g,A g->S g\/a.heap.size<=g):aF S a c:=
 ⟨k.os.trans h.os,k.tape.trans h.tape,k.output.trans h.output,aac h.size k.size,fun i C D=>(k.block i (Nat.lt_of_lt_of_le C h.size) (fun E=>by
  rcases F i E with B|B
  ·exact D B
  ·omega)).trans (h.block i C D)⟩
theorem wF(w:World)(g:Nat)(u:Value)(h:w.cell? ⟨g,0,none⟩=some u):∀j v,[u][j]? =some v->w.cell? ((⟨g,0,none⟩:Addr).add j)=some v:=by
 intro j v A
 cases j with
 | zero=>simp at A;subst A;exact h
 | succ j=>simp at A
theorem ag(w:World)(o:Obj):Below w.heap.size w (w.alloc o):=(Below.refl _ _).alloc (aab _) _
theorem bU.later{C:Type}{size:Nat}{cells:C->List Value}{w w':World}{A:Option Addr}{l:List C}(h:bU size cells w w.heap.size A l)(B:Below w.heap.size w w'):bU size cells w' w'.heap.size A l:=(h.below B (aab _)).mono B.size
theorem aK.cB{w:World}{base:Nat}{e:TypeId}{size:Nat}{v:Value}{n:Nat}{H:List Value}(h:aK w base e size v n H){g:Nat}{t:TypeId}{E:Array Value}(C:aj w g t E)(B:e≠t):v.ownBlock≠some g:=by
 intro D;rcases h.2 with⟨rfl,_⟩| ⟨G,J,K,I,rfl,_,A,_⟩
 ·cases D
 ·have F:G=g:=by simpa [Value.ownBlock] using D
  subst F;unfold aj at C;rw[C]at A;simp at A;exact B A.2.symm
section
variable {P:Program}(w:World)
theorem Br(base:Nat)(t Y e:TypeId)(i:TypeInfo)(z:Value)(size C:Nat)(R:P.underlying t=some (.slice e))(N:P.info? e=some i)(d:i.zero=some z)
 (H:i.size=size) (M:i.bytes=C) (U:z.cells.size=size) (Q:0<size)
 (v:Value) (n:Nat) (W:List Value) (D:aK w base e size v n W)
 (A:Option Addr) (m c:Nat) (B:List Value) (X:B.length=m*size) (E:∀j u,B[j]? =some u->∃a,A=some a/\w.cell? (a.add j)=some u) (Z:∀u∈B,u.oneCell'=true)
 (K:n+m<=maxLen) (F:(n+m)*C<=140737488355328) (G:base<=w.heap.size):
 ∃I w',(Builtin.append_ #[t,t] Y #[v,.slice A m c]).run P w= .ok I w'/\aK w' base e size I (n+m) (W++B)/\w.grownBy w' v.ownBlock /\
  (I.ownBlock=v.ownBlock\/I.ownBlock=some w.heap.size):=by
 cases A with
 | some a=>
  refine Gh w base t Y e i z size C R N d H M U v n W D a m c B X (fun j u f=>?_) Z K F G;obtain⟨b,L,x⟩:=E j u f;cases L
  exact x
 | none=>
  have k:B=[]:=by
   cases B with
   | nil=>rfl
   | cons u us=>
    obtain⟨a,L,_⟩:=E 0 u rfl;cases L
  subst k
  have l:m=0:=by
   rcases Nat.eq_zero_or_pos m with h|h
   ·exact h
   ·have:=Nat.mul_pos h Q
    simp at X;omega
  subst l;rcases D.2 with⟨rfl,rfl⟩| ⟨g,V,J,cur,rfl,y,hg,O,r,q,T⟩
  ·refine⟨.slice none 0 0,w,?_,by simpa using D,⟨rfl,rfl,rfl,aab _,fun _ _ _=>rfl⟩,.inl rfl⟩
   simp[Builtin.append_,run_underlying R,sizeOf,typeInfo,N,Builtin.lenOf,Builtin.firstCells]
  ·refine⟨.slice (some ⟨g,V,none⟩) n J,w,?_,by simpa using D,⟨rfl,rfl,rfl,aab _,fun _ _ _=>rfl⟩,.inl rfl⟩
   simp[Builtin.append_,run_underlying R,sizeOf,typeInfo,N,Builtin.lenOf,Builtin.firstCells,O,storeCells]
end
section
variable {P:Program}(w:World)
theorem LB{J:Array Oper}{rest:List Oper}{o:Oper}{a:Act}{Q:Exit->Act->World->Prop}(M:o.guard=none)(s x:Operand)(t:TypeId)
 (y:o.op= .call { callee:=.builtin .append,args:=#[s,x],argTypes:=#[t,t] })
 (base:Nat) (e:TypeId) (i:TypeInfo) (z:Value) (size C:Nat) (l:P.underlying t=some (.slice e)) (Y:P.info? e=some i) (g:i.zero=some z)
 (G:i.size=size) (L:i.bytes=C) (O:z.cells.size=size) (N:0<size)
 (v:Value) (n:Nat) (R:List Value) (q:a.eval s=v) (I:aK w base e size v n R)
 (A:Option Addr) (m c:Nat) (B:List Value) (k:a.eval x= .slice A m c) (Z:B.length=m*size) (F:∀j u,B[j]? =some u->∃a,A=some a/\w.cell? (a.add j)=some u) (T:∀u∈B,u.oneCell'=true)
 (K:n+m<=maxLen) (D:(n+m)*C<=140737488355328) (E:base<=w.heap.size)
 (h:∀H w',aK w' base e size H (n+m) (R++B)->w.grownBy w' v.ownBlock->(H.ownBlock=v.ownBlock\/H.ownBlock=some w.heap.size)->wpList P J Q rest (a.put o.dst H) w'):wpList P J Q (o::rest) a w:=
 wpList_plain M fun _ X=>by
  obtain⟨H,w',r,U,V,W⟩:=Br (P:=P) w base t o.type e i z size C l Y g G L O N v n R I A m c B Z F T K D E;unfold Oper.wp execOp;simp only[y,resolve,invoke,builtin,Sem.run_bind,Sem.run_pure,Result.andThen_ok,List.map_toArray,List.map_cons,List.map_nil,q,k,r];exact X _ _ (h H w' U V W)
end
theorem bH{a b:Bool}(h:a=b):Ending.returned (.bool a)= .returned (.bool b):=by rw[h]
theorem uO(c:Nat)(w:World):Calls Tryz.prog 226 #[.int .u8 (c:Int)] w fun e w'=>e= .returned (.bool (rV c))/\w=w':=by
 by_cases A:c=9
 ·subst A
  go_in
  go_wp2
  go_ret
  exact⟨rfl,rfl⟩
 by_cases B:c=10
 ·subst B
  go_in
  go_wp2
  go_ret
  exact⟨rfl,rfl⟩
 by_cases C:c=13
 ·subst C
  go_in
  go_wp2
  go_ret
  exact⟨rfl,rfl⟩
 have K:((c:Int)==9)=false:=by simp;omega
 have L:((c:Int)==10)=false:=by simp;omega
 have M:((c:Int)==13)=false:=by simp;omega
 have E:decide (c=9)=false:=by simp[A]
 have F:decide (c=10)=false:=by simp[B]
 have G:decide (c=13)=false:=by simp[C]
 clear A B C;by_cases D:c=32
 ·subst D
  go_in
  go_wp2
  go_ret
  exact⟨rfl,rfl⟩
 ·have N:((c:Int)==32)=false:=by simp;omega
  have H:decide (c=32)=false:=by simp[D]
  have I:rV c=false:=by simp[rV,E,F,G,H]
  have J:=kH I;clear E F G H D I;go_in
  go_wp2
  go_ret
  exact⟨bH J.out.symm,rfl⟩
theorem lL(c:Nat)(w:World):Calls Tryz.prog 227 #[.int .u8 (c:Int)] w fun e w'=>e= .returned (.bool (kI c))/\w=w':=by
 by_cases C:97<=c
 ·have A:(97:Int)<=(c:Int):=by omega
  by_cases D:c<=122
  ·have B:(c:Int)<=122:=by omega
   go_in
   go_wp2
   go_ret
   exact⟨bH (by simp[kI,C,D]),rfl⟩
  ·have B:¬(c:Int)<=122:=by omega
   go_in
   go_wp2
   go_ret
   exact⟨bH (by simp[kI,D]),rfl⟩
 ·have A:¬(97:Int)<=(c:Int):=by omega
  go_in
  go_wp2
  go_ret
  exact⟨bH (by simp[kI,C]),rfl⟩
theorem nG(c:Nat)(w:World):Calls Tryz.prog 184 #[.int .u8 (c:Int)] w fun e w'=>e= .returned (.bool (fT c))/\w=w':=by
 by_cases C:48<=c
 ·have A:(48:Int)<=(c:Int):=by omega
  by_cases D:c<=57
  ·have B:(c:Int)<=57:=by omega
   go_in
   go_wp2
   go_ret
   exact⟨bH (by simp[fT,C,D]),rfl⟩
  ·have B:¬(c:Int)<=57:=by omega
   go_in
   go_wp2
   go_ret
   exact⟨bH (by simp[fT,D]),rfl⟩
 ·have A:¬(48:Int)<=(c:Int):=by omega
  go_in
  go_wp2
  go_ret
  exact⟨bH (by simp[fT,C]),rfl⟩
def kJ(l:List ByteArray)(x:ByteArray):Bool:=l.any fun b=>b.toList==x.toList
def bN(b:ByteArray):List Value:=[.string b]
theorem Xx(l:bB):(bf l).toList=l:=by simp[bf,ByteArray.toList_eq]
theorem II(A:List bB)(x:ByteArray):kJ (A.map bf) x=tL A x.data.toList:=by
 unfold kJ tL;rw[List.any_map];congr 1
 funext b
 simp only[Function.comp];rw[Xx,ByteArray.toList_eq,Bool.eq_iff_iff];simp
theorem ve(K:Option Addr)(B X:Nat)(l:List ByteArray)(x:ByteArray)(w:World)(Q:bU 1 bN w w.heap.size K l)(E:l.length=B)(n:B<=1000000):
 Calls Tryz.prog 88 #[.slice K B X,.string x] w fun e w'=>e= .returned (.bool (kJ l x))/\Below w.heap.size w w':=by
 have V:=kH Q;have J:=kH E;clear Q E;go_in
 go_wp2_with fail
 go_loopg [5] B (fun gk s wr=> ∃k:Nat,k+gk=B/\s= .int .i64 k/\Below w.heap.size w wr/\kJ (l.take k) x=false)
 case atStart=>exact⟨0,by omega,rfl,Below.refl _ _,rfl⟩
 case round=>
  obtain⟨k,R,rfl,Y,T⟩:=hrel;have z:k<=B:=by omega
  have L:=kH R;have N:=kH T;clear R T;by_cases F:k<B
  ·have C:l[k]? =some (l[k]'(by rw[J.out];exact F)):=aaf _
   generalize l[k]'(by rw[J.out];exact F)=y at C
   obtain⟨W,r,I,Z,D⟩:=(V.out.below Y (aab _)) k _ C;subst I;have m:wr.cell? ⟨W,r+k,none⟩=some (.string y):=by simpa using D 0 _ rfl
   have v:(k:Int)<(B:Int):=by omega
   have G:kJ (l.take (k+1)) x=(y.toList==x.toList):=by
    have O:=N.out;unfold kJ at O⊢;rw[List.take_add_one,C,List.any_append,O];simp
   have U:=kH C;have t:=kH G;clear D C G;obtain⟨q,u⟩:∃q,(y.toList==x.toList)=q:=⟨_,rfl⟩
   have M:=kH u;cases q
   ·go_wp2_with fail
    go_roundg (gk - 1)
    case measure=>have:=L.out;omega
    case rel=>exact⟨k+1,by have:=L.out;omega,by go_num,by(repeat (first|exact Below.refl _ _|assumption|refine Below.trans ?_ (Below.mono (by assumption) (by first|omega|(simp;done)|(simp;omega)))|refine Below.alloc ?_ (by first|omega|(simp;done)|(simp;omega)) _|refine Below.setCell ?_ (by first|omega|(simp;done)|(simp;omega)) _|refine Below.drew ?_|refine aT ?_ _)),by rw[t.out];exact M.out⟩
   ·have A:kJ l x=true:=by
     unfold kJ;rw[List.any_eq_true];exact⟨y,aan U.out,M.out⟩
    have H:=kH A;clear A;go_wp2_with fail
    go_ret
    rw[H.out];exact⟨rfl,by(repeat (first|exact Below.refl _ _|assumption|refine Below.trans ?_ (Below.mono (by assumption) (by first|omega|(simp;done)|(simp;omega)))|refine Below.alloc ?_ (by first|omega|(simp;done)|(simp;omega)) _|refine Below.setCell ?_ (by first|omega|(simp;done)|(simp;omega)) _|refine Below.drew ?_|refine aT ?_ _))⟩
  ·have A:kJ l x=false:=by
    have h:=N.out;rw[List.take_of_length_le (by rw[J.out];omega)]at h;exact h
   have H:=kH A;clear A;go_wp2_with fail
   go_ret
   rw[H.out];exact⟨rfl,by(repeat (first|exact Below.refl _ _|assumption|refine Below.trans ?_ (Below.mono (by assumption) (by first|omega|(simp;done)|(simp;omega)))|refine Below.alloc ?_ (by first|omega|(simp;done)|(simp;omega)) _|refine Below.setCell ?_ (by first|omega|(simp;done)|(simp;omega)) _|refine Below.drew ?_|refine aT ?_ _))⟩
theorem yC(w:World)(C:TypeId)(A:List bB):bU 1 bN (w.alloc (.cells (A.map fun b=>Value.string (bf b)).toArray C)) (w.alloc (.cells (A.map fun b=>Value.string (bf b)).toArray C)).heap.size (some ⟨w.heap.size,0,none⟩) (A.map bf):=by
 intro k c D;refine⟨w.heap.size,0,rfl,by simp,fun j v B=>?_⟩;have F:=aj.new w C (A.map fun b=>Value.string (bf b)).toArray;rw[F.cell]
 cases j with
 | zero=>
  simp[bN]at B;subst B;simp at D⊢;obtain⟨a,E,rfl⟩:=D;exact⟨a,E,rfl⟩
 | succ j=>simp[bN]at B
theorem Ed(s:ByteArray)(a b:Nat):(s.extract a b).data.toList=uD s.data.toList a b:=by
 rw[Lib.extract_data];unfold uD;simp
theorem JG(x:ByteArray)(w:World):Calls Tryz.prog 228 #[.string x] w fun e w'=>e= .returned (.bool (Jm x.data.toList))/\Below w.heap.size w w':=by
 go_in
 go_wp2_with fail
 refine(ve (some ⟨w.heap.size,0,none⟩) 18 18 (RA.map bf) x _ (yC w 9 RA) rfl (by omega)).mono ?_;rintro e C ⟨rfl,A⟩;go_wp2_with fail
 go_ret
 refine⟨bH (by rw[II];rfl),?_⟩;have B:=ag w (.cells (RA.map fun b=>Value.string (bf b)).toArray 9);exact B.trans (A.mono (by simp))
theorem nP(s:ByteArray)(i:Nat)(h:i<s.size):(s[i]'h).toNat=bz s.data.toList i:=by
 unfold bz;rw[List.getD_eq_getElem?_getD,aaf (by simpa using h)];rfl
theorem bQ(s:ByteArray):s.data.toList.length=s.size:=by simp
theorem LQ(s:ByteArray)(a:Nat)(w:World)(U:a<s.size)(V:s.size<=4096):
 Calls Tryz.prog 229 #[.string s,.int .i64 (a:Int)] w fun e w'=>e= .returned (.int .i64 (yB s.data.toList a:Int))/\Below w.heap.size w w':=by
 have T:(a:Int)+1<=s.size:=by omega
 have J:kJ (IY.map bf) (s.extract a (a+1))=tL IY (uD s.data.toList a (a+1)):=by rw[II,Ed]
 have K:kJ (QF.map bf) (s.extract a (a+2))=tL QF (uD s.data.toList a (a+2)):=by rw[II,Ed]
 obtain⟨I,B⟩:∃x,tL IY (uD s.data.toList a (a+1))=x:=⟨_,rfl⟩
 obtain⟨O,A⟩:∃x,tL QF (uD s.data.toList a (a+2))=x:=⟨_,rfl⟩
 rw[B]at J;rw[A]at K
 have E:(yB s.data.toList a:Int)=if decide (a+2<=s.size)&&O then 2 else if I then 1 else 0:=by
  unfold yB;rw[B,A,bQ];split<;>(try split)<;>rfl
 rw[E];have N:=kH J;have R:=kH K;clear J K B A E;by_cases Q:a+2<=s.size
 ·have L:(a:Int)+2<=s.size:=by omega
  have G:decide (a+2<=s.size)=true:=decide_eq_true Q;rw[G];clear G;go_in
  go_wp2_with fail
  refine(ve (some ⟨w.heap.size,0,none⟩) 4 4 (QF.map bf) _ _ (yC w 9 QF) rfl (by omega)).mono ?_;rintro e H ⟨rfl,B⟩;rw[R.out];have D:=ag w (.cells (QF.map fun b=>Value.string (bf b)).toArray 9);have F:Below w.heap.size w H:=D.trans (B.mono (by simp));clear D B;cases O
  ·go_wp2_with fail
   refine(ve (some ⟨H.heap.size,0,none⟩) 18 18 (IY.map bf) _ _ (yC H 9 IY) rfl (by omega)).mono ?_;rintro e M ⟨rfl,A⟩;rw[N.out];have D:=ag H (.cells (IY.map fun b=>Value.string (bf b)).toArray 9);have C:Below w.heap.size w M:=F.trans ((D.trans (A.mono (by simp))).mono F.size);clear D A;cases I
   ·go_wp2_with fail
    go_ret
    exact⟨rfl,C⟩
   ·go_wp2_with fail
    go_ret
    exact⟨rfl,C⟩
  ·go_wp2_with fail
   go_ret
   exact⟨rfl,F⟩
 ·have L:¬(a:Int)+2<=s.size:=by omega
  have G:decide (a+2<=s.size)=false:=decide_eq_false Q;rw[G];clear G;go_in
  go_wp2_with fail
  refine(ve (some ⟨w.heap.size,0,none⟩) 18 18 (IY.map bf) _ _ (yC w 9 IY) rfl (by omega)).mono ?_;rintro e M ⟨rfl,A⟩;rw[N.out];have D:=ag w (.cells (IY.map fun b=>Value.string (bf b)).toArray 9);have C:Below w.heap.size w M:=D.trans (A.mono (by simp));clear D A;cases I
  ·go_wp2_with fail
   go_ret
   exact⟨rfl,C⟩
  ·go_wp2_with fail
   go_ret
   exact⟨rfl,C⟩
theorem Nb(s:ByteArray)(a:Nat)(w:World)(H:a<s.size)(K:s.size<=4096):
 Calls Tryz.prog 230 #[.string s,.int .i64 (a:Int)] w fun e w'=>e= .returned (.bool (u7 s.data.toList a))/\Below w.heap.size w w':=by
 have L:=nP s a H;have I:(a:Int)<s.size:=by omega
 obtain⟨F,C⟩:∃x,kI (bz s.data.toList a)=x:=⟨_,rfl⟩
 obtain⟨G,D⟩:∃x,fT (bz s.data.toList a)=x:=⟨_,rfl⟩
 have A:u7 s.data.toList a=(F || G || decide (0<yB s.data.toList a)):=by unfold u7;rw[C,D]
 rw[A];have B:=kH C;have E:=kH D;clear C D A;cases F
 ·cases G
  ·go_in
   go_wp2_with fail
   refine(lL _ _).mono ?_;rintro e w' ⟨rfl,rfl⟩;rw[B.out];go_wp2_with fail
   refine(nG _ _).mono ?_;rintro e w' ⟨rfl,rfl⟩;rw[E.out];go_wp2_with fail
   refine(LQ s a _ H K).mono ?_;rintro e w' ⟨rfl,J⟩;go_wp2_with fail
   go_ret
   exact⟨bH (by simp),J⟩
  ·go_in
   go_wp2_with fail
   refine(lL _ _).mono ?_;rintro e w' ⟨rfl,rfl⟩;rw[B.out];go_wp2_with fail
   refine(nG _ _).mono ?_;rintro e w' ⟨rfl,rfl⟩;rw[E.out];go_wp2_with fail
   go_ret
   exact⟨rfl,Below.refl _ _⟩
 ·go_in
  go_wp2_with fail
  refine(lL _ _).mono ?_;rintro e w' ⟨rfl,rfl⟩;rw[B.out];go_wp2_with fail
  go_ret
  exact⟨rfl,Below.refl _ _⟩
theorem skip_any(s:ByteArray)(a:Nat)(w:World)(ha:a<=s.size)(hs:s.size<=4096):
 Calls Tryz.prog 179 #[.string s,.int .i64 (a:Int)] w fun e w'=>e= .returned (.int .i64 (kG s.data.toList (s.size+1) a:Int))/\w=w':=by
 go_in
 go_wp2_with fail
 go_loopg [1] (s.size - a) (fun gk s1 wr=> ∃k f:Nat,k+gk=s.size/\s1= .int .i64 k/\kG s.data.toList (s.size+1) a=kG s.data.toList f k/\s.size<f+k/\w=wr)
 case atStart=>exact⟨a,s.size+1,by omega,rfl,rfl,by omega,rfl⟩
 case round=>
  obtain⟨k,f,b,rfl,M,hf,rfl⟩:=hrel;have hk':k<=s.size:=by omega
  have Q:=kH b;have R:=kH M;clear b M;obtain⟨f,rfl⟩:∃g,f=g+1:=⟨f - 1,by omega⟩
  by_cases H:k<s.size
  ·have hc:=nP s k H
   have hki:(k:Int)<s.size:=by omega
   obtain⟨c,J⟩:∃c,bz s.data.toList k=c:=⟨_,rfl⟩
   rw[J]at hc;obtain⟨r,K⟩:∃x,rV c=x:=⟨_,rfl⟩
   have T:=kH J;have O:=kH K;clear J K;by_cases N:c=35
   ·subst N
    have V:r=false:=by rw[<- O.out];rfl
    subst V
    have A:kG s.data.toList (f+1) k=kG s.data.toList f (iH (fun i=> !decide (bz s.data.toList i=10)) s.data.toList s.data.toList.length k):=by
     rw[kG,T.out,bQ,if_pos (by simp[H]),if_pos rfl]
    have v:=kH A;clear A;go_wp2_with fail
    refine(uO 35 _).mono ?_;rintro e w' ⟨rfl,rfl⟩;go_wp2_with fail
    obtain⟨u,rfl⟩:∃u:World,u=w:=⟨_,rfl⟩
    obtain⟨n,rfl⟩:∃n:Nat,n=gk:=⟨_,rfl⟩
    go_loopg [1] (s.size - k) (fun gk s1 wr=> ∃j:Nat,j+gk=s.size/\k<=j/\s1= .int .i64 j/\(∀i,k<=i->i<j->(fun i=> !decide (bz s.data.toList i=10)) i=true)/\u=wr)
    case atStart=>exact⟨k,by omega,aab _,rfl,fun i m h2=>by omega,rfl⟩
    case round=>
     obtain⟨j,d,z,rfl,I,rfl⟩:=hrel;have Y:j<=s.size:=by omega
     have t:=kH d;have iT:=kH I;clear d I
     have E:(j<s.size->bz s.data.toList j=10)->kG s.data.toList (s.size+1) a=kG s.data.toList f j:=fun h=>by
      rw[R.out,v.out,Iq _ k j z (by rw[bQ];exact Y) iT.out (fun hl=>by rw[bQ]at hl;simp[h hl]) (by omega)]
     by_cases L:j<s.size
     ·have W:=nP s j L
      have hji:(j:Int)<s.size:=by omega
      obtain⟨q,F⟩:∃c,bz s.data.toList j=c:=⟨_,rfl⟩
      rw[F]at W;have D:=kH F;clear F;by_cases G:q=10
      ·have B:=E (fun _=>by rw[D.out];exact G)
       have hkj2:k<j:=by
        rcases Nat.lt_or_ge k j with h|h
        ·exact h
        ·have:j=k:=by omega
         subst this;have:=T.out.symm.trans D.out;omega
       have y:=kH B;subst G;clear B E;go_wp2_with fail
       go_roundg (s.size - j)
       case measure=>have:=Q.out;omega
       case rel=>exact⟨j,f,by omega,rfl,y.out,by omega,rfl⟩
      ·have hne:((q:Int) !=10)=true:=by simp;omega
       have fH:Hid (bz s.data.toList j≠10):=kH (by rw[D.out];exact G);clear G E;go_wp2_with fail
       go_roundg (gk - 1)
       case measure=>have:=t.out;omega
       case rel=>
        refine⟨j+1,by have:=t.out;omega,by omega,by go_num,fun i m h2=>?_,rfl⟩;by_cases X:i=j
        ·subst X;simpa using fH.out
        ·exact iT.out i m (by omega)
     ·have Z:j=s.size:=by omega
      have B:=E (fun h=>by omega);have y:=kH B;clear B E;subst Z;go_wp2_with fail
      go_roundg 0
      case measure=>have:=Q.out;omega
      case rel=>exact⟨s.size,f,by omega,rfl,y.out,by omega,rfl⟩
   ·have l:((c:Int)==35)=false:=by simp;omega
    cases r
    ·have A:kG s.data.toList (f+1) k=k:=by
      rw[kG,T.out,bQ,if_neg];rw[O.out];simp[N]
     have C:=R.out.trans A;have U:=kH C;clear C A N;go_wp2_with fail
     refine(uO c _).mono ?_;rintro e w' ⟨rfl,rfl⟩;rw[O.out];go_wp2_with fail
     go_ret
     exact⟨U1 (by rw[U.out]),rfl⟩
    ·have A:kG s.data.toList (f+1) k=kG s.data.toList f (k+1):=by
      rw[kG,T.out,bQ,if_pos,if_neg N];rw[O.out];simp[H]
     have v:=kH A;clear A N;go_wp2_with fail
     refine(uO c _).mono ?_;rintro e w' ⟨rfl,rfl⟩;rw[O.out];go_wp2_with fail
     go_roundg (gk - 1)
     case measure=>have:=Q.out;omega
     case rel=>exact⟨k+1,f,by have:=Q.out;omega,by go_num,R.out.trans v.out,by omega,rfl⟩
  ·have hks:k=s.size:=by omega
   have A:kG s.data.toList (f+1) k=k:=by
    rw[kG,bQ,if_neg (by simp[H])]
   have C:=R.out.trans A;have U:=kH C;clear C A;go_wp2_with fail
   go_ret
   exact⟨U1 (by rw[U.out]),rfl⟩
theorem Om(s:ByteArray)(a:Nat)(w:World)(ha:a<s.size)(hs:s.size<=4096):
 Calls Tryz.prog 180 #[.string s,.int .i64 (a:Int)] w fun e w'=>e= .returned (.tuple #[.int .i64 ((gM s.data.toList a).1:Int),.int .i64 ((gM s.data.toList a).2:Int)])/\Below w.heap.size w w':=by
 have R:=nP s a ha;have hai:(a:Int)<s.size:=by omega
 obtain⟨c,n⟩:∃c,bz s.data.toList a=c:=⟨_,rfl⟩
 rw[n]at R;have zJ:=kH n;clear n;obtain⟨bl,hbl⟩:∃x,kI c=x:=⟨_,rfl⟩
 have Z:=kH hbl;clear hbl;cases bl
 ·obtain⟨bd,hbd⟩:∃x,fT c=x:=⟨_,rfl⟩
  have vD:=kH hbd;clear hbd;cases bd
  ·obtain⟨b,V⟩:∃x,yB s.data.toList a=x:=⟨_,rfl⟩
   have hsm2:b<=2:=by rw[<- V];exact symM_le a
   have hsy:∀w:World,Calls Tryz.prog 229 #[.string s,.int .i64 (a:Int)] w fun e w'=>e= .returned (.int .i64 (b:Int))/\Below w.heap.size w w':=fun w=>by rw[<- V];exact LQ s a w ha hs
   have qm:=kH V;have VM:=kH hsy;clear V hsy;by_cases h0:0<b
   ·have h0i:(0:Int)<(b:Int):=by omega
    have Y:gM s.data.toList a=(3,a+b):=by
     unfold gM;rw[zJ.out,Z.out,vD.out,qm.out,if_neg (by simp),if_neg (by simp),if_pos h0]
    have aN:=kH Y;clear Y h0;go_in
    go_wp2_with fail
    refine(lL c _).mono ?_;rintro e w' ⟨rfl,rfl⟩;rw[Z.out];go_wp2_with fail
    refine(nG c _).mono ?_;rintro e w' ⟨rfl,rfl⟩;rw[vD.out];go_wp2_with fail
    refine(VM.out _).mono ?_;rintro e w1 ⟨rfl,C⟩;go_wp2_with fail
    refine(VM.out _).mono ?_;rintro e w2 ⟨rfl,H⟩;go_wp2_with fail
    go_ret2
    refine⟨by rw[aN.out];rfl,C.trans (H.mono C.size)⟩
   ·have hs0:b=0:=by omega
    subst hs0
    have G:gM s.data.toList a=(4,iH (fun i=> !rV (bz s.data.toList i)&& !decide (bz s.data.toList i=35)&& !u7 s.data.toList i) s.data.toList s.data.toList.length a):=by
     unfold gM;rw[zJ.out,Z.out,vD.out,qm.out,if_neg (by simp),if_neg (by simp),if_neg (by simp)]
    have wL:=kH G;clear G h0;go_in
    go_wp2_with fail
    refine(lL c _).mono ?_;rintro e w' ⟨rfl,rfl⟩;rw[Z.out];go_wp2_with fail
    refine(nG c _).mono ?_;rintro e w' ⟨rfl,rfl⟩;rw[vD.out];go_wp2_with fail
    refine(VM.out _).mono ?_;rintro e w1 ⟨rfl,C⟩;clear R;go_wp2_with fail
    go_loopg [6] (s.size - a) (fun gk s6 wr=> ∃j:Nat,j+gk=s.size/\a<=j/\s6= .int .i64 j/\(∀i,a<=i->i<j->(fun i=> !rV (bz s.data.toList i)&& !decide (bz s.data.toList i=35)&& !u7 s.data.toList i) i=true)/\Below w.heap.size w wr)
    case atStart=>exact⟨a,by omega,aab _,rfl,fun i M t=>by omega,C⟩
    case round=>
     obtain⟨j,W,N,rfl,F,r⟩:=hrel;have O:j<=s.size:=by omega
     have L:=kH W;have T:=kH F;clear W F C
     have B:(j<s.size->(!rV (bz s.data.toList j)&& !decide (bz s.data.toList j=35)&& !u7 s.data.toList j)=false)->gM s.data.toList a=(4,j):=fun h=>by
      rw[wL.out,Iq _ a j N (by rw[bQ];exact O) T.out (fun X=>by rw[bQ]at X;exact h X) (by omega)]
     by_cases K:j<s.size
     ·have R:=nP s j K
      have hji:(j:Int)<s.size:=by omega
      obtain⟨d,E⟩:∃c,bz s.data.toList j=c:=⟨_,rfl⟩
      rw[E]at R;obtain⟨f,C⟩:∃x,rV d=x:=⟨_,rfl⟩
      obtain⟨b3,q⟩:∃x,u7 s.data.toList j=x:=⟨_,rfl⟩
      have z:=kH E;have D:=kH C;have v:=kH q;rw[E,C,q]at B;clear E C q;cases f
      ·by_cases vw:d=35
       ·have A:=B (fun _=>by simp[vw])
        have l:((d:Int) !=35)=false:=by simp;omega
        have J:=kH A;clear A B vw;go_wp2_with fail
        refine(uO d _).mono ?_;rintro e w' ⟨rfl,rfl⟩;rw[D.out];go_wp2_with fail
        go_ret2
        exact⟨by rw[J.out];rfl,r⟩
       ·have l:((d:Int) !=35)=true:=by simp;omega
        have m:decide (d=35)=false:=decide_eq_false vw;rw[m]at B;have HDA:=kH m;clear m vw;cases b3
        ·clear B
         go_wp2_with fail
         refine(uO d _).mono ?_;rintro e w' ⟨rfl,rfl⟩;rw[D.out];go_wp2_with fail
         refine(Nb s j _ K hs).mono ?_;rintro e w2 ⟨rfl,H⟩;rw[v.out];go_wp2_with fail
         go_roundg (gk - 1)
         case measure=>have:=L.out;omega
         case rel=>
          refine⟨j+1,by have:=L.out;omega,by omega,by go_num,fun i M t=>?_,r.trans (H.mono r.size)⟩;by_cases I:i=j
          ·subst I
           rw[v.out,z.out,HDA.out,D.out];rfl
          ·exact T.out i M (by omega)
        ·have A:=B (fun _=>by simp)
         have J:=kH A;clear A B;go_wp2_with fail
         refine(uO d _).mono ?_;rintro e w' ⟨rfl,rfl⟩;rw[D.out];go_wp2_with fail
         refine(Nb s j _ K hs).mono ?_;rintro e w2 ⟨rfl,H⟩;rw[v.out];go_wp2_with fail
         go_ret2
         exact⟨by rw[J.out];rfl,r.trans (H.mono r.size)⟩
      ·have A:=B (fun _=>by simp)
       have J:=kH A;clear A B;go_wp2_with fail
       refine(uO d _).mono ?_;rintro e w' ⟨rfl,rfl⟩;rw[D.out];go_wp2_with fail
       go_ret2
       exact⟨by rw[J.out];rfl,r⟩
     ·have Q:j=s.size:=by omega
      have A:=B (fun h=>by omega);have J:=kH A;clear A B;subst Q;go_wp2_with fail
      go_ret2
      exact⟨by rw[J.out];rfl,r⟩
  ·have G:gM s.data.toList a=(2,iH (fun i=>fT (bz s.data.toList i)) s.data.toList s.data.toList.length a):=by
    unfold gM;rw[zJ.out,Z.out,vD.out,if_neg (by simp),if_pos rfl]
   have wL:=kH G;clear G;go_in
   go_wp2_with fail
   refine(lL c _).mono ?_;rintro e w' ⟨rfl,rfl⟩;rw[Z.out];go_wp2_with fail
   refine(nG c _).mono ?_;rintro e w' ⟨rfl,rfl⟩;rw[vD.out];clear R;go_wp2_with fail
   go_loopg [6] (s.size - a) (fun gk s6 wr=> ∃j:Nat,j+gk=s.size/\a<=j/\s6= .int .i64 j/\(∀i,a<=i->i<j->(fun i=>fT (bz s.data.toList i)) i=true)/\w=wr)
   case atStart=>exact⟨a,by omega,aab _,rfl,fun i M t=>by omega,rfl⟩
   case round=>
    obtain⟨j,W,N,rfl,F,rfl⟩:=hrel;have O:j<=s.size:=by omega
    have L:=kH W;have T:=kH F;clear W F
    have B:(j<s.size->fT (bz s.data.toList j)=false)->gM s.data.toList a=(2,j):=fun h=>by
     rw[wL.out,Iq _ a j N (by rw[bQ];exact O) T.out (fun X=>by rw[bQ]at X;exact h X) (by omega)]
    by_cases K:j<s.size
    ·have R:=nP s j K
     have hji:(j:Int)<s.size:=by omega
     obtain⟨d,E⟩:∃c,bz s.data.toList j=c:=⟨_,rfl⟩
     rw[E]at R;obtain⟨f,C⟩:∃x,fT d=x:=⟨_,rfl⟩
     have z:=kH E;have D:=kH C;rw[E,C]at B;clear E C;cases f
     ·have A:=B (fun _=>rfl)
      have J:=kH A;clear A B;go_wp2_with fail
      refine(nG d _).mono ?_;rintro e w' ⟨rfl,rfl⟩;rw[D.out];go_wp2_with fail
      go_ret2
      exact⟨by rw[J.out];rfl,Below.refl _ _⟩
     ·clear B
      go_wp2_with fail
      refine(nG d _).mono ?_;rintro e w' ⟨rfl,rfl⟩;rw[D.out];go_wp2_with fail
      go_roundg (gk - 1)
      case measure=>have:=L.out;omega
      case rel=>
       refine⟨j+1,by have:=L.out;omega,by omega,by go_num,fun i M t=>?_,rfl⟩;by_cases I:i=j
       ·subst I
        rw[z.out];exact D.out
       ·exact T.out i M (by omega)
    ·have Q:j=s.size:=by omega
     have A:=B (fun h=>by omega);have J:=kH A;clear A B;subst Q;go_wp2_with fail
     go_ret2
     exact⟨by rw[J.out];rfl,Below.refl _ _⟩
 ·have G:gM s.data.toList a=(if Jm (uD s.data.toList a (iH (fun i=>xG (bz s.data.toList i)) s.data.toList s.data.toList.length a)) then 1 else 0,iH (fun i=>xG (bz s.data.toList i)) s.data.toList s.data.toList.length a):=by
   unfold gM;rw[zJ.out,Z.out,if_pos rfl]
  have wL:=kH G;clear G;go_in
  go_wp2_with fail
  refine(lL c _).mono ?_;rintro e w' ⟨rfl,rfl⟩;rw[Z.out];clear R;go_wp2_with fail
  go_loopg [6] (s.size - a) (fun gk s6 wr=> ∃j:Nat,j+gk=s.size/\a<=j/\s6= .int .i64 j/\(∀i,a<=i->i<j->(fun i=>xG (bz s.data.toList i)) i=true)/\w=wr)
  case atStart=>exact⟨a,by omega,aab _,rfl,fun i M t=>by omega,rfl⟩
  case round=>
   obtain⟨j,W,N,rfl,F,rfl⟩:=hrel;have O:j<=s.size:=by omega
   have L:=kH W;have T:=kH F;clear W F;obtain⟨kb,g⟩:∃x,Jm (uD s.data.toList a j)=x:=⟨_,rfl⟩
   have B:(j<s.size->xG (bz s.data.toList j)=false)->gM s.data.toList a=(if kb then 1 else 0,j):=fun h=>by
    rw[wL.out,Iq _ a j N (by rw[bQ];exact O) T.out (fun X=>by rw[bQ]at X;exact h X) (by omega),g]
   have ME:∀w:World,Calls Tryz.prog 228 #[.string (s.extract a j)] w fun e w'=>e= .returned (.bool kb)/\Below w.heap.size w w':=fun w=>by
    have:=JG (s.extract a j) w;rw[Ed,g]at this;exact this
   have Cg:=kH ME;clear ME g;have haji:(a:Int)<=(j:Int):=by omega
   have hjsi:(j:Int)<=s.size:=by omega
   by_cases K:j<s.size
   ·have R:=nP s j K
    have hji:(j:Int)<s.size:=by omega
    obtain⟨d,E⟩:∃c,bz s.data.toList j=c:=⟨_,rfl⟩
    rw[E]at R;obtain⟨f,C⟩:∃x,kI d=x:=⟨_,rfl⟩
    obtain⟨b2,H⟩:∃x,fT d=x:=⟨_,rfl⟩
    have k:xG d=(f || b2 || decide (d=95)):=by unfold xG;rw[C,H]
    have z:=kH E;have D:=kH C;have y:=kH H;rw[E,k]at B;have u:=kH k;clear E C H k;cases f
    ·cases b2
     ·by_cases U:d=95
      ·have l:((d:Int)==95)=true:=by simp;omega
       have HD:Hid (d=95):=kH U;clear B U;go_wp2_with fail
       refine(lL d _).mono ?_;rintro e w' ⟨rfl,rfl⟩;rw[D.out];go_wp2_with fail
       refine(nG d _).mono ?_;rintro e w' ⟨rfl,rfl⟩;rw[y.out];go_wp2_with fail
       go_roundg (gk - 1)
       case measure=>have:=L.out;omega
       case rel=>
        refine⟨j+1,by have:=L.out;omega,by omega,by go_num,fun i M t=>?_,rfl⟩;by_cases I:i=j
        ·subst I
         rw[z.out,u.out];simp[HD.out]
        ·exact T.out i M (by omega)
      ·have l:((d:Int)==95)=false:=by simp;omega
       have A:=B (fun _=>by simp[U]);have J:=kH A;clear A B U;go_wp2_with fail
       refine(lL d _).mono ?_;rintro e w' ⟨rfl,rfl⟩;rw[D.out];go_wp2_with fail
       refine(nG d _).mono ?_;rintro e w' ⟨rfl,rfl⟩;rw[y.out];go_wp2_with fail
       refine(Cg.out _).mono ?_;rintro e w1 ⟨rfl,C⟩;cases kb
       ·go_wp2_with fail
        go_ret2
        exact⟨by rw[J.out];rfl,C⟩
       ·go_wp2_with fail
        go_ret2
        exact⟨by rw[J.out];rfl,C⟩
     ·clear B
      go_wp2_with fail
      refine(lL d _).mono ?_;rintro e w' ⟨rfl,rfl⟩;rw[D.out];go_wp2_with fail
      refine(nG d _).mono ?_;rintro e w' ⟨rfl,rfl⟩;rw[y.out];go_wp2_with fail
      go_roundg (gk - 1)
      case measure=>have:=L.out;omega
      case rel=>
       refine⟨j+1,by have:=L.out;omega,by omega,by go_num,fun i M t=>?_,rfl⟩;by_cases I:i=j
       ·subst I
        rw[z.out,u.out];simp
       ·exact T.out i M (by omega)
    ·clear B
     go_wp2_with fail
     refine(lL d _).mono ?_;rintro e w' ⟨rfl,rfl⟩;rw[D.out];go_wp2_with fail
     go_roundg (gk - 1)
     case measure=>have:=L.out;omega
     case rel=>
      refine⟨j+1,by have:=L.out;omega,by omega,by go_num,fun i M t=>?_,rfl⟩;by_cases I:i=j
      ·subst I
       rw[z.out,u.out];simp
      ·exact T.out i M (by omega)
   ·have Q:j=s.size:=by omega
    have A:=B (fun h=>by omega);have J:=kH A;clear A B;subst Q;go_wp2_with fail
    refine(Cg.out _).mono ?_;rintro e w1 ⟨rfl,C⟩;cases kb
    ·go_wp2_with fail
     go_ret2
     exact⟨by rw[J.out];rfl,C⟩
    ·go_wp2_with fail
     go_ret2
     exact⟨by rw[J.out];rfl,C⟩
end Go.Proofs.YtoepemlnlpamlaaGreat
