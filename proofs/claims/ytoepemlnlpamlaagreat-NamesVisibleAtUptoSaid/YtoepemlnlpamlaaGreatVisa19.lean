/- The law NamesVisibleAt holds where what it reads is of bulk at most 1048576: it returns true, and its arguments read as before. Part 19: Shp4 Shp4i Shp5. -/
import Derived.Test.YtoepemlnlpamlaaGreatVisa18
set_option maxRecDepth 100000
set_option maxHeartbeats 4000000
namespace Go.Proofs.YtoepemlnlpamlaaGreat
open Go.RowKit
def iX:Nat->Tg
 | 0=>.any
 | 11=>.any
 | 12=>.shape ⟨fq,[],none,0⟩
 | 13=>.ints [3,5]
 | 14=>.kind (bS [3,5])
 | 15=>.shape ⟨fq,[],some (bS [3,5]),0⟩
 | 16=>.text df
 | 17=>.ints [4]
 | 18=>.kind (bS [4])
 | 19=>.shape ⟨df,[],some (bS [4]),1⟩
 | 20=>.text df
 | 21=>.ints [9]
 | 22=>.kind (bS [9])
 | 23=>.qG [bS [9]]
 | 24=>.shape ⟨df,[bS [9]],none,0⟩
 | 25=>.text df
 | 26=>.ints [6]
 | 27=>.kind (bS [6])
 | 28=>.kind (gL dC)
 | 29=>.kind (bS [11])
 | 30=>.qG [bS [6],gL dC,bS [11]]
 | 31=>.shape ⟨df,[bS [6],gL dC,bS [11]],none,0⟩
 | 32=>.ints [7,8]
 | 33=>.kind (bS [7,8])
 | 34=>.shape ⟨fq,[],some (bS [7,8]),0⟩
 | 35=>.text df
 | 36=>.kind (gL dC)
 | 37=>.qG [gL dC]
 | 38=>.shape ⟨df,[gL dC],none,0⟩
 | 39=>.text df
 | 40=>.kind (gL dC)
 | 41=>.qG [gL dC]
 | 42=>.shape ⟨df,[gL dC],none,0⟩
 | 43=>.text NC
 | 44=>.shape ⟨NC,[],none,0⟩
 | 45=>.shape ⟨jk,[],none,0⟩
 | 46=>.shape ⟨fq,[],some ll,0⟩
 | 47=>.text df
 | 48=>.kind (gL dC)
 | 49=>.kind (aQ)
 | 50=>.qG [gL dC,aQ]
 | 51=>.shape ⟨df,[gL dC,aQ],none,0⟩
 | 52=>.kind (aQ)
 | 53=>.qG [jv,aQ]
 | 54=>.shape ⟨fq,[jv,aQ],none,0⟩
 | 55=>.kind (aQ)
 | 56=>.kind (bS [11])
 | 57=>.ints [11,14]
 | 58=>.kind (bS [11,14])
 | 59=>.kind (gL (bS [11,14]))
 | 60=>.qG [aQ,bS [11],gL (bS [11,14])]
 | 61=>.shape ⟨fq,[aQ,bS [11],gL (bS [11,14])],none,0⟩
 | 62=>.kind (aQ)
 | 63=>.kind (bS [11])
 | 64=>.qG [aQ,bS [11]]
 | 65=>.shape ⟨fq,[aQ,bS [11]],none,0⟩
 | 66=>.text df
 | 67=>.kind (aQ)
 | 68=>.kind (aQ)
 | 69=>.kind (bS [11])
 | 70=>.qG [aQ,aQ,bS [11]]
 | 71=>.shape ⟨df,[aQ,aQ,bS [11]],none,0⟩
 | 72=>.kind (aQ)
 | 73=>.kind (gL (aQ))
 | 74=>.qG [gL (aQ)]
 | 75=>.shape ⟨fq,[gL (aQ)],none,0⟩
 | 76=>.kind (aQ)
 | 77=>.qG [aQ]
 | 78=>.shape ⟨fq,[aQ],none,0⟩
 | 79=>.text df
 | 80=>.kind (aQ)
 | 81=>.shape ⟨df,[],some (aQ),0⟩
 | 82=>.text df
 | 83=>.shape ⟨df,[],none,0⟩
 | 84=>.ints [20]
 | 85=>.kind (bS [20])
 | 86=>.kind (aQ)
 | 87=>.qG [bS [20],aQ]
 | 88=>.shape ⟨fq,[bS [20],aQ],none,0⟩
 | 89=>.text df
 | 90=>.ints [20]
 | 91=>.kind (bS [20])
 | 92=>.qG [bS [20]]
 | 93=>.shape ⟨df,[bS [20]],none,0⟩
 | 94=>.ints [20]
 | 95=>.kind (bS [20])
 | 96=>.qG [bS [20]]
 | 97=>.shape ⟨fq,[bS [20]],none,0⟩
 | 98=>.shape ⟨jk,[],none,0⟩
 | 99=>.strs Fb
 | 100=>.text (nL Fb)
 | 101=>.shape ⟨(nL Fb),[],none,0⟩
 | 102=>.kind (aQ)
 | 103=>.shape ⟨fq,[],some (aQ),1⟩
 | 104=>.text df
 | 105=>.kind (aQ)
 | 106=>.shape ⟨df,[],some (aQ),0⟩
 | 107=>.strs Qz
 | 108=>.text (nL Qz)
 | 109=>.kind (aQ)
 | 110=>.qG [aQ]
 | 111=>.shape ⟨(nL Qz),[aQ],none,0⟩
 | 112=>.strs BU
 | 113=>.text (nL BU)
 | 114=>.kind (aQ)
 | 115=>.kind (aQ)
 | 116=>.qG [aQ,aQ]
 | 117=>.shape ⟨(nL BU),[aQ,aQ],none,0⟩
 | 118=>.any
 | _=>.any
def kY:Nat->Option Int
 | 2=>some 0
 | 6=>some 2
 | 11=>some 3
 | 17=>some 4
 | 25=>some 5
 | 29=>some 6
 | 34=>some 7
 | 39=>some 8
 | 42=>some 9
 | 44=>some 10
 | 46=>some 11
 | 52=>some 12
 | 56=>some 13
 | 64=>some 14
 | 69=>some 15
 | 76=>some 16
 | 81=>some 17
 | 85=>some 18
 | 89=>some 19
 | 92=>some 20
 | 98=>some 21
 | 104=>some 22
 | 109=>some 23
 | 111=>some 24
 | 115=>some 25
 | 118=>some 26
 | 122=>some 27
 | 128=>some 28
 | 135=>some 29
 | _=>none
def MapI(w0:World)(listed:Array Bool)(a:Act)(w:World):Prop:=
 listed.getD 0 false=true->∃r m,a.tmps[11]? =some (.map (some r))/\w0.heap.size<=r/\bA kX w r m/\(∀x∈m,∃sh,mf x.1=some sh/\qH w x.2 sh) /\
  (∀i k,kY i=some k->listed.getD i false=true->(nV m k).isSome=true)/\(listed.getD 136 false=true->a.tmps[118]? =some (.map (some r)))/\(listed.getD 137 false=true->a.tmps[0]? =some (.map (some r)))
structure qx (w0:World) (b1 b5:Nat) (v2 v4 v5:Value) (listed:Array Bool) (a:Act) (w:World):Prop where
 size:a.tmps.size=119
 t1:a.tmps[1]? =some (.pointer (some ⟨b1,0,none⟩))
 t2:a.tmps[2]? =some v2
 t3:a.tmps[3]? =some (.func (Fn.func 190) #[] #[])
 t4:a.tmps[4]? =some v4
 t5:a.tmps[5]? =some (.pointer (some ⟨b5,0,none⟩))
 k1:aj w b1 99 #[.func (Fn.func 53) #[] #[]]
 k2:jE w v2 (bS [11])
 k4:jE w v4 (gL dC)
 k5:aj w b5 99 #[v5]
 q5:pg w v5 (nL DU)
 tmp:Fe (dH Tryz.f141 4).toArray (fun t w v=>yQ w v (iX t)) listed a w
 oP:MapI w0 listed a w
 ord:∀i,(kY i≠none\/i=136\/i=137)->listed.getD i false=true->listed.getD 0 false=true
 below:Below w0.heap.size w0 w
 defers:a.defers=[]
theorem mP{i:Nat}{d:Option Nat}{B:Op}(h:((dH Tryz.f141 4).toArray[i]?).map (fun o=>(o.dst,o.op,o.guard))=some (d,B,none)):∃o,(dH Tryz.f141 4).toArray[i]? =some o/\o.dst=d/\o.op=B/\o.guard=none:=by
 cases A:(dH Tryz.f141 4).toArray[i]? with
 | none=>rw[A]at h;cases h
 | some o=>
  rw[A]at h;simp only[Option.map_some,aag,Prod.mk.injEq]at h;exact⟨o,rfl,h.1,h.2.1,h.2.2⟩
theorem qx.get{M:World}{E F:Nat}{I J L:Value}{A:Array Bool}{a:Act}{w:World}(G:qx M E F I J L A a w){i:Nat}(H:i∈Region.ready .any (dH Tryz.f141 4).toArray A){j u:Nat}
 (C:((dH Tryz.f141 4).toArray[j]?).map (fun o=>o.dst)=some (some u)) (B:((dH Tryz.f141 4).toArray[i]?).map (fun o=>o.after.toList.any fun e=>Region.binds .any e&&(e.on==j))=some true):∃v,a.tmps[u]? =some v/\yQ w v (iX u):=by
 cases D:(dH Tryz.f141 4).toArray[j]? with
 | none=>rw[D]at C;cases C
 | some o=>
  rw[D]at C;simp only[Option.map_some,aag]at C;exact G.tmp j o u D C (AO H B)
def Yx(ops:List Oper):Bool:=(List.range ops.length).all fun i=>match ops[i]? with|some o=>o.after.toList.all fun e=>decide (e.on<i)|none=>true
def injB(ops:List Oper):Bool:=(List.range ops.length).all fun i=>match ops[i]? with|some o=>(match o.dst with|some t=>ops.findIdx (fun x=>x.dst==some t)==i|none=>true)|none=>true
theorem acyc_of{A:List Oper}(h:Yx A=true):∀(i:Nat) (o:Oper),A.toArray[i]? =some o->∀e∈o.after,e.on<i:=by
 intro i o C e D;have E:=(aae.1 C).1;unfold Yx at h;rw[List.all_eq_true]at h;have B:=h i (by simpa using E);rw[show A[i]? =some o by simpa using C]at B;simp only[List.all_eq_true,decide_eq_true_eq]at B;exact B e (by simpa using D)
theorem Mv{A:List Oper}(h:injB A=true):∀(i j:Nat) (o B:Oper) (t:Nat),A.toArray[i]? =some o->A.toArray[j]? =some B->o.dst=some t->B.dst=some t->i=j:=by
 have key:∀(i:Nat) (o:Oper) (t:Nat),A.toArray[i]? =some o->o.dst=some t->A.findIdx (fun x=>x.dst==some t)=i:=by
  intro i o t G D;have F:=(aae.1 G).1;unfold injB at h;rw[List.all_eq_true]at h;have C:=h i (by simpa using F);rw[show A[i]? =some o by simpa using G]at C;simp only[D,beq_iff_eq]at C;exact C
 intro i j o B t F H D E;rw[<- key i o t F D,<- key j B t H E]
theorem sh_acyc:Yx (dH Tryz.f141 4)=true:=by kernel_rfl
theorem LV:injB (dH Tryz.f141 4)=true:=by kernel_rfl
theorem AV{P:Program}{A:Array Oper}{Q:Exit->Act->World->Prop}{i:Nat}{o:Oper}{a:Act}{w:World}{K:Act->World->Prop}(C:A[i]? =some o)(B:o.guard=none)(h:o.wp P a w K Q):wpOp P A Q i K a w:=by
 unfold wpOp;simp only[C];rw[if_pos (by simp[Region.wanted,B])];exact .inl h
theorem eX{A:Array Bool}{i j:Nat}(B:j≠i):(A.setIfInBounds i true).getD j false=A.getD j false:=by
 simp[Array.getD_eq_getD_getElem?,Array.getElem?_setIfInBounds_ne (Ne.symm B)]
theorem qx.put{S:World}{L M:Nat}{P Q R:Value}{B:Array Bool}{a:Act}{w w':World}(C:qx S L M P Q R B a w)(q:B.size=(dH Tryz.f141 4).toArray.size){i:Nat}{o:Oper}{t:Nat}{v:Value}
 (y:(dH Tryz.f141 4).toArray[i]? =some o) (J:o.dst=some t) (d:12<=t/\t<=117) (A:kY i=none/\i≠0/\i≠136/\i≠137) (F:Below w.heap.size w w') (l:yQ w' v (iX t)):
 qx S L M P Q R (B.setIfInBounds i true) (a.put o.dst v) w':=by
 have H:=KC.of_below F
 have G:∀u,u≠t->(a.put o.dst v).tmps[u]? =a.tmps[u]? :=fun u n=>by
  rw[J];show(a.tmps.setIfInBounds t v)[u]? =_;rw[Array.getElem?_setIfInBounds_ne (Ne.symm n)]
 refine⟨?_,(G 1 (by omega)).trans C.t1,(G 2 (by omega)).trans C.t2,(G 3 (by omega)).trans C.t3,(G 4 (by omega)).trans C.t4,(G 5 (by omega)).trans C.t5,H.blk C.k1,C.k2.kc H F.size,C.k4.kc H F.size,H.blk C.k5,C.q5.kc H F.size,?_,?_,?_,C.below.trans (F.mono C.below.size),?_⟩
 ·rw[J]
  show(a.tmps.setIfInBounds t v).size=119;simpa using C.size
 ·exact C.tmp.put q (fun t v h=>yQ.kc H F.size h) (Mv LV) y J (by rw[C.size];omega) l
 ·intro N
  rw[eX (Ne.symm A.2.1)]at N;obtain⟨r,m,T,U,O,V,W,X,Y⟩:=C.oP N;refine⟨r,m,(G 11 (by omega)).trans T,U,O.below F O.lt,fun x g=>?_,fun j k D E=>?_,fun E=>?_,fun E=>?_⟩
  ·obtain⟨f,Z,z⟩:=V x g
   exact⟨f,Z,z.kc H F.size⟩
  ·have I:j≠i:=by rintro rfl;rw[A.1]at D;cases D
   rw[eX I]at E;exact W j k D E
  ·rw[eX (Ne.symm A.2.2.1)]at E
   exact(G 118 (by omega)).trans (X E)
  ·rw[eX (Ne.symm A.2.2.2)]at E
   exact(G 0 (by omega)).trans (Y E)
 ·intro j D E
  have I:j≠i:=by
   rintro rfl;rcases D with D|D|D
   ·exact D A.1
   ·exact A.2.2.1 D
   ·exact A.2.2.2 D
  rw[eX I]at E;rw[eX (Ne.symm A.2.1)];exact C.ord j D E
 ·rw[J]
  exact C.defers
def jQ(i:Nat):Prop:=∀(w0:World) (b1 b5:Nat) (v2 v4 v5:Value) (listed:Array Bool) (a:Act) (w:World) (Q:Exit->Act->World->Prop),listed.size=(dH Tryz.f141 4).toArray.size->qx w0 b1 b5 v2 v4 v5 listed a w->i∈Region.ready .any (dH Tryz.f141 4).toArray listed ->
 wpOp Tryz.prog (dH Tryz.f141 4).toArray Q i (qx w0 b1 b5 v2 v4 v5 (listed.setIfInBounds i true)) a w
theorem kU{J:World}{D E:Nat}{G H I:Value}{A:Array Bool}{a:Act}{w:World}{Q:Exit->Act->World->Prop}(P:A.size=(dH Tryz.f141 4).toArray.size)(L:qx J D E G H I A a w){i:Nat}{o:Oper}{t:Nat}
 (_hi:i∈Region.ready .any (dH Tryz.f141 4).toArray A) (F:(dH Tryz.f141 4).toArray[i]? =some o) (O:o.guard=none) (N:o.dst=some t) (R:12<=t/\t<=117) (B:kY i=none/\i≠0/\i≠136/\i≠137)
 {v:Value}{w':World}(C:(execOp a.eval o).run Tryz.prog w= .ok (.value v) w') (M:Below w.heap.size w w') (S:yQ w' v (iX t)):
 wpOp Tryz.prog (dH Tryz.f141 4).toArray Q i (qx J D E G H I (A.setIfInBounds i true)) a w:=by
 refine AV (o:=o) F O ?_;unfold Oper.wp;rw[C,Oper.upon_value];exact L.put P F N R B M S
theorem Gb{J:World}{D E:Nat}{G H I:Value}{A:Array Bool}{a:Act}{w:World}{Q:Exit->Act->World->Prop}(R:A.size=(dH Tryz.f141 4).toArray.size)(L:qx J D E G H I A a w){i:Nat}{o:Oper}{t:Nat}
 (_hi:i∈Region.ready .any (dH Tryz.f141 4).toArray A) (F:(dH Tryz.f141 4).toArray[i]? =some o) (P:o.guard=none) (O:o.dst=some t) (S:12<=t/\t<=117) (B:kY i=none/\i≠0/\i≠136/\i≠137)
 {f:Nat}{args:Array Value}(C:(execOp a.eval o).run Tryz.prog w= .ok (.enter f args) w) (N:Calls Tryz.prog f args w fun e w'=> ∃v,e= .returned v/\yQ w' v (iX t)/\Below w.heap.size w w'):
 wpOp Tryz.prog (dH Tryz.f141 4).toArray Q i (qx J D E G H I (A.setIfInBounds i true)) a w:=by
 refine AV (o:=o) F P ?_;unfold Oper.wp;rw[C,Oper.upon_enter];refine N.mono ?_;rintro e w' ⟨v,rfl,T,M⟩;exact L.put R F O S B M T
theorem Kz(w:World)(B:TypeId)(l:List Int):bU 1 gN (w.alloc (.cells (l.map fun i=>Value.int .i64 i).toArray B)) (w.alloc (.cells (l.map fun i=>Value.int .i64 i).toArray B)).heap.size (some ⟨w.heap.size,0,none⟩) l:=by
 intro k c D;refine⟨w.heap.size,0,rfl,by simp,fun j v A=>?_⟩;have C:=aj.new w B (l.map fun i=>Value.int .i64 i).toArray;rw[C.cell]
 cases j with
 | zero=>
  simp[gN]at A;subst A;simp[D]
 | succ j=>simp[gN]at A
theorem Cs(w:World)(B:TypeId)(l:List ByteArray):bU 1 bN (w.alloc (.cells (l.map fun i=>Value.string i).toArray B)) (w.alloc (.cells (l.map fun i=>Value.string i).toArray B)).heap.size (some ⟨w.heap.size,0,none⟩) l:=by
 intro k c D;refine⟨w.heap.size,0,rfl,by simp,fun j v A=>?_⟩;have C:=aj.new w B (l.map fun i=>Value.string i).toArray;rw[C.cell]
 cases j with
 | zero=>
  simp[bN]at A;subst A;simp[D]
 | succ j=>simp[bN]at A
inductive Lx (w:World):List Value->List (Int->Bool)->Prop where
 | nil:Lx w [] []
 | cons {v:Value}{p:Int->Bool}{vs:List Value}{ps:List (Int->Bool)}:jE w v p->Lx w vs ps->Lx w (v::vs) (p::ps)
theorem Lx.get{w:World}:∀{B:List Value}{A:List (Int->Bool)},Lx w B A->∀(i:Nat) (p:Int->Bool),A[i]? =some p->∃v,B[i]? =some v/\jE w v p
 | _,_,.nil,i,p,h=>by simp at h
 | _,_,.cons h1 h2,0,p,h=>by
  simp at h;subst h;exact⟨_,rfl,h1⟩
 | _,_,.cons h1 h2,i+1,p,h=>by
  obtain⟨v,C,D⟩:=Lx.get h2 i p (by simpa using h);exact⟨v,by simpa using C,D⟩
theorem KZ(w:World)(C:TypeId)(A:List Value)(B:List (Int->Bool))(h:Lx w A B):IU (w.alloc (.cells A.toArray C)) (some ⟨w.heap.size,0,none⟩) B:=by
 intro i p G;obtain⟨v,D,E⟩:=h.get i p G;refine⟨w.heap.size,0,v,rfl,?_,E.below (ag _ _)⟩;have F:=aj.new w C A.toArray;rw[F.cell];simpa using D
theorem Gv{w:World}{v:Value}{p:Int->Bool}(h:jE w v p):∃B A,v= .func (Fn.func B) #[] A:=by
 obtain⟨B,A,rfl,-⟩:=h;exact⟨B,A,rfl⟩
theorem Oq{w:World}{v:Value}{p:ByteArray->Bool}(h:pg w v p):∃B A,v= .func (Fn.func B) #[] A:=by
 obtain⟨B,A,rfl,-⟩:=h;exact⟨B,A,rfl⟩
section
variable {K:Type} [DecidableEq K]
theorem Rl(k:K):∀(m:List (K×Value)) (i:Nat),(mR k m i).isSome=true↔k∈m.map (·.1)
 | [],i=>by simp[mR]
 | x::m,i=>by
  simp only[mR,List.map_cons,List.mem_cons];by_cases h:k=x.1
  ·simp[h]
  ·rw[if_neg h,Rl k m (i+1)]
   simp[h]
theorem OH{m:List (K×Value)}{k:K}:(nV m k).isSome=true↔k∈m.map (·.1):=by
 unfold nV;rw[Option.isSome_map];exact Rl k m 0
theorem Zt{m:List (K×Value)}{k:K}{v:Value}(h:nV m k=some v):(k,v)∈m:=by
 unfold nV at h
 cases A:mR k m 0 with
 | none=>rw[A]at h;cases h
 | some x=>
  obtain⟨i,u⟩:=x;rw[A]at h;simp at h;subst h;obtain⟨n,C,B⟩:=Ir k m 0 i u A;exact aan B
theorem setM_mem{m:List (K×Value)}{k:K}{v:Value}{x:K×Value}(h:x∈p8 m k v):x∈m\/x=(k,v):=by
 unfold p8 at h;split at h
 ·simp at h
  exact h
 ·rename_i i u hp
  rw[List.mem_iff_getElem?]at h;obtain⟨j,A⟩:=h;rw[List.getElem?_modify]at A
  cases B:m[j]? with
  | none=>rw[B]at A;simp at A
  | some y=>
   rw[B]at A;simp at A;split at A
   ·exact .inr A.symm
   ·exact .inl (by rw[<- A];exact aan B)
theorem Ox{m:List (K×Value)}{k:K}{v:Value}:k∈(p8 m k v).map (·.1)/\∀j∈m.map (·.1),j∈(p8 m k v).map (·.1):=by
 unfold p8;split
 ·simp
  intro j x E;exact .inl ⟨x,E⟩
 ·rename_i i u hp
  obtain⟨n,F,B⟩:=Ir k m 0 i u hp;have D:i=n:=by omega
  subst D
  have C:(m.modify i fun _=>(k,v)).map (·.1)=m.map (·.1):=by
   apply List.ext_getElem?
   intro j;rw[List.getElem?_map,List.getElem?_map,List.getElem?_modify];by_cases A:i=j
   ·subst A
    simp[B]
   ·cases m[j]? <;>simp[A]
  rw[C];exact⟨List.mem_map.2 ⟨(k,u),aan B,rfl⟩,fun j A=>A⟩
end
theorem step_ins{w0:World}{q n:Nat}{v2 v4 v5:Value}{A:Array Bool}{a:Act}{w:World}{Q:Exit->Act->World->Prop}(hs:A.size=(dH Tryz.f141 4).toArray.size)(C:qx w0 q n v2 v4 v5 A a w){i:Nat}{o:Oper}
 (_hi:i∈Region.ready .any (dH Tryz.f141 4).toArray A) (ho:(dH Tryz.f141 4).toArray[i]? =some o) (hg:o.guard=none) (b:o.dst=none) {k:Int}{u:Nat}{v:Value}
 (X:o.op=Op.insert 191 (Operand.tmp 11) (Operand.const (Value.int IntKind.i64 k)) (Operand.tmp u)) (D:kY i=some k) (he:a.eval (.tmp u)=v) (l:A.getD 0 false=true) (E:(mf k).map Tg.shape=some (iX u)) (c:yQ w v (iX u)):
 wpOp Tryz.prog (dH Tryz.f141 4).toArray Q i (qx w0 q n v2 v4 v5 (A.setIfInBounds i true)) a w:=by
 obtain⟨r,m,f,h2,d,h4,h5,h6,h7⟩:=C.oP l
 obtain⟨H,Y,Z⟩:∃H,mf k=some H/\iX u= .shape H:=by
  cases T:mf k with
  | none=>rw[T]at E;cases E
  | some H=>rw[T]at E;simp at E;exact⟨H,rfl,E.symm⟩
 rw[Z]at c;obtain⟨w2,O,V,J,hz2⟩:=fI (P:=Tryz.prog) (KK:=kX) (t:=191) (kt:=3) (et:=197) Tryz.underlying191 Tryz.underlying3 d k v;have I:=uN f
 have B:KC w w2:=by
  intro g cs ty fr L;refine J.block g (aae.1 L).1 ?_;intro e1;cases e1
  obtain⟨es,U,R,-⟩:=d;rw[L]at R;cases R
 have W:i≠0:=by rintro rfl;cases D
 have N:∀x,a.put none x=a:=fun _=>rfl
 refine AV (o:=o) ho hg ?_;unfold Oper.wp
 have G:(execOp a.eval o).run Tryz.prog w= .ok .skip w2:=by
  simp only[execOp,X];rw[I,he];simp only[Act.eval];have:=O;unfold kX at this;simp only at this;simp[this,Result.andThen]
 rw[G,Oper.upon_skip,b,N];refine⟨C.size,C.t1,C.t2,C.t3,C.t4,C.t5,B.blk C.k1,C.k2.kc B (by omega),C.k4.kc B (by omega),B.blk C.k5,C.q5.kc B (by omega),C.tmp.skip hs (fun t v h=>yQ.kc B (by omega) h) ho b,?_,?_,?_,C.defers⟩
 ·intro _
  refine⟨r,p8 m k v,f,h2,V,fun x z=>?_,fun j k' S F=>?_,fun F=>?_,fun F=>?_⟩
  ·rcases setM_mem z with z|rfl
   ·obtain⟨y,R,h9⟩:=h4 x z
    exact⟨y,R,h9.kc B (by omega)⟩
   ·exact⟨H,Y,qH.kc c B (by omega)⟩
  ·rw[OH]
   by_cases M:j=i
   ·subst M
    rw[D]at S;cases S
    exact Ox.1
   ·rw[eX M]at F
    exact Ox.2 _ (OH.1 (h5 j k' S F))
  ·refine h6 ?_
   rw[eX (by rintro rfl;cases D)]at F;exact F
  ·refine h7 ?_
   rw[eX (by rintro rfl;cases D)]at F;exact F
 ·intro j S F
  rw[eX (Ne.symm W)];exact l
 ·exact C.below.trans (((aF.refl (fun g=>g=r) w).grown J (fun k T=>by cases T;exact .inl rfl)).toBelow C.below.size (fun g hg=>by omega))
theorem op_0(V:((dH Tryz.f141 4).toArray[0]?).map (fun o=>(o.dst,o.op,o.guard))=some (some 11,Op.makeMap 191 none,none)):jQ 0:=by
 intro y W X Y Z z B a w Q T A S;obtain⟨o,O,G,P,R⟩:=mP V;have L:=(mem_ready.1 S).1;have H:0<B.size:=by have:=(aae.1 O).1;omega
 have D:B.getD 0 false=false:=by simp[H]at L⊢;exact L
 have E:=ag w (.map #[] 0);have F:=KC.of_below E
 have I:∀u,u≠11->(a.put o.dst (.map (some w.heap.size))).tmps[u]? =a.tmps[u]? :=fun u U=>by
  rw[G];show(a.tmps.setIfInBounds 11 _)[u]? =_;rw[Array.getElem?_setIfInBounds_ne (Ne.symm U)]
 refine AV (o:=o) O R ?_;unfold Oper.wp
 have J:(execOp a.eval o).run Tryz.prog w= .ok (.value (.map (some w.heap.size))) (w.alloc (.map #[] 0)):=by
  simp only[execOp,P];have:=@run_makeMap Tryz.prog 191 w;simp[this,Result.andThen]
 rw[J,Oper.upon_value];refine⟨?_,(I 1 (by omega)).trans A.t1,(I 2 (by omega)).trans A.t2,(I 3 (by omega)).trans A.t3,(I 4 (by omega)).trans A.t4,(I 5 (by omega)).trans A.t5,F.blk A.k1,A.k2.kc F E.size,A.k4.kc F E.size,F.blk A.k5,A.q5.kc F E.size,?_,?_,?_,A.below.trans (E.mono A.below.size),?_⟩
 ·rw[G]
  show(a.tmps.setIfInBounds 11 _).size=119;simpa using A.size
 ·exact A.tmp.put T (fun t v h=>yQ.kc F E.size h) (Mv LV) O G (by rw[A.size];omega) trivial
 ·intro _
  refine⟨w.heap.size,[],?_,A.below.size,bA.made w,by simp,fun j k M C=>?_,fun C=>?_,fun C=>?_⟩
  ·rw[G]
   show(a.tmps.setIfInBounds 11 _)[11]? =_;simp[A.size]
  ·have N:j≠0:=by rintro rfl;cases M
   rw[eX N]at C;have:=A.ord j (.inl (by rw[M];simp)) C;rw[D]at this;cases this
  ·rw[eX (by omega)]at C
   have:=A.ord 136 (.inr (.inl rfl)) C;rw[D]at this;cases this
  ·rw[eX (by omega)]at C
   have:=A.ord 137 (.inr (.inr rfl)) C;rw[D]at this;cases this
 ·intro j M C
  simp[H]
 ·rw[G]
  exact A.defers
def rG(i u:Nat):Prop:=(match (dH Tryz.f141 4).toArray[i]? with
 | some o=>o.after.toList.any fun e=>Region.binds .any e&&(match (dH Tryz.f141 4).toArray[e.on]? with|some q=>q.dst==some u|none=>false)
 | none=>false)=true
theorem qx.dep{N:World}{E F:Nat}{J L M:Value}{A:Array Bool}{a:Act}{w:World}(H:qx N E F J L M A a w){i:Nat}(I:i∈Region.ready .any (dH Tryz.f141 4).toArray A){u:Nat}(h:rG i u):∃v,a.tmps[u]? =some v/\yQ w v (iX u):=by
 unfold rG at h
 cases C:(dH Tryz.f141 4).toArray[i]? with
 | none=>rw[C]at h;cases h
 | some o=>
  rw[C]at h;obtain⟨e,G,B⟩:=List.any_eq_true.1 h;rw[aad]at B
  cases D:(dH Tryz.f141 4).toArray[e.on]? with
  | none=>rw[D]at B;cases B.2
  | some q=>
   rw[D]at B;refine H.get I (j:=e.on) (u:=u) (by rw[D];exact congrArg some (eq_of_beq B.2)) ?_;rw[C];refine congrArg some (List.any_eq_true.2 ⟨e,G,?_⟩);rw[B.1,beq_self_eq_true];rfl
def SO(i:Nat)(d:Option Nat)(op:Op):Prop:=((dH Tryz.f141 4).toArray[i]?).map (fun o=>(o.dst,o.op,o.guard))=some (d,op,none)
def TX(i:Nat)(x:Operand)(p:ByteArray->Bool):Prop:=∀{w0:World}{b1 b5:Nat}{v2 v4 v5:Value}{listed:Array Bool}{a:Act}{w:World},qx w0 b1 b5 v2 v4 v5 listed a w->i∈Region.ready .any (dH Tryz.f141 4).toArray listed->∃f c,a.eval x= .func (Fn.func f) #[] c/\pg w (.func (Fn.func f) #[] c) p
def KP(i:Nat)(x:Operand)(p:Int->Bool):Prop:=∀{w0:World}{b1 b5:Nat}{v2 v4 v5:Value}{listed:Array Bool}{a:Act}{w:World},qx w0 b1 b5 v2 v4 v5 listed a w->i∈Region.ready .any (dH Tryz.f141 4).toArray listed->∃f c,a.eval x= .func (Fn.func f) #[] c/\jE w (.func (Fn.func f) #[] c) p
section
variable {i:Nat}
theorem TX.t(u:Nat)(p:ByteArray->Bool)(h:rG i u:=by unfold rG;kernel_rfl) (D:iX u= .text p:=by rfl):TX i (.tmp u) p:=fun B C=>by
 obtain⟨v,E,A⟩:=B.dep C h;rw[D]at A;obtain⟨f,c,rfl⟩:=Oq A;exact⟨f,c,uN E,A⟩
theorem TX.e:TX i (.func 194) fq:=fun _ _=>⟨194,#[],rfl,empty_fn _⟩
theorem TX.n:TX i (.func 196) jk:=fun _ _=>⟨196,#[],rfl,Zm _⟩
theorem KP.t(u:Nat)(p:Int->Bool)(h:rG i u:=by unfold rG;kernel_rfl) (D:iX u= .kind p:=by rfl):KP i (.tmp u) p:=fun B C=>by
 obtain⟨v,E,A⟩:=B.dep C h;rw[D]at A;obtain⟨f,c,rfl⟩:=Gv A;exact⟨f,c,uN E,A⟩
theorem KP.s:KP i (.func 197) ll:=fun _ _=>⟨197,#[],rfl,ZB _⟩
theorem KP.p:KP i (.func 198) jv:=fun _ _=>⟨198,#[],rfl,XD _⟩
theorem kB(t:Nat){x:Operand}{F:ByteArray->Bool}(R:TX i x F)(T:SO i (some t) (Op.build 197 #[(0,x)]):=by unfold SO;kernel_rfl) (P:iX t= .shape ⟨F,[],none,0⟩:=by rfl) (S:12<=t/\t<=117:=by decide) (M:kY i=none/\i≠0/\i≠136/\i≠137:=by decide):jQ i:=by
 intro Z U V W X Y A a w Q O D E;obtain⟨o,N,J,C,L⟩:=mP T;obtain⟨I,H,B,G⟩:=R D E;refine kU O D E N L J S M (v:=.agg #[.func (Fn.func I) #[] H,.slice none 0 0,.nilFunc,.int .i64 0]) (w':=w) (by simp only[execOp,C,List.map_toArray,List.map_cons,List.map_nil,B];go_simp) (Below.refl _ _) ?_;rw[P];exact⟨_,_,_,_,rfl,G,(by intro i p h;simp at h),rfl⟩
theorem zW(t:Nat){x:Operand}{J:ByteArray->Bool}(Y:TX i x J)(u:Nat)(I:List (Int->Bool))(h:rG i u:=by unfold rG;kernel_rfl) (X:iX u= .qG I:=by rfl) (z:SO i (some t) (Op.build 197 #[(0,x),(1,Operand.tmp u)]):=by unfold SO;kernel_rfl) (W:iX t= .shape ⟨J,I,none,0⟩:=by rfl) (Z:12<=t/\t<=117:=by decide) (T:kY i=none/\i≠0/\i≠136/\i≠137:=by decide):jQ i:=by
 intro l y r q n m C a w Q V D F;obtain⟨o,U,O,G,R⟩:=mP z;obtain⟨N,M,E,L⟩:=Y D F;obtain⟨k,H,B⟩:=D.dep F h;rw[X]at B;obtain⟨A,c,rfl,S⟩:=B;have P:=uN H;refine kU V D F U R O Z T (v:=.agg #[.func (Fn.func N) #[] M,.slice A I.length c,.nilFunc,.int .i64 0]) (w':=w) (by simp only[execOp,G,List.map_toArray,List.map_cons,List.map_nil,E];go_simp) (Below.refl _ _) ?_;rw[W];exact⟨_,_,_,_,rfl,L,S,rfl⟩
theorem Zz(t:Nat){x y:Operand}{H:ByteArray->Bool}{p:Int->Bool}(V:TX i x H)(W:KP i y p)(Y:SO i (some t) (Op.build 197 #[(0,x),(2,y)]):=by unfold SO;kernel_rfl) (U:iX t= .shape ⟨H,[],some p,0⟩:=by rfl) (X:12<=t/\t<=117:=by decide) (R:kY i=none/\i≠0/\i≠136/\i≠137:=by decide):jQ i:=by
 intro n Z z u r q A a w Q T B F;obtain⟨o,S,O,G,P⟩:=mP Y;obtain⟨N,L,E,I⟩:=V B F;obtain⟨M,J,D,C⟩:=W B F;refine kU T B F S P O X R (v:=.agg #[.func (Fn.func N) #[] L,.slice none 0 0,.func (Fn.func M) #[] J,.int .i64 0]) (w':=w) (by simp only[execOp,G,List.map_toArray,List.map_cons,List.map_nil,E,D];go_simp) (Below.refl _ _) ?_;rw[U];exact⟨_,_,_,_,rfl,I,(by intro i p h;simp at h),C⟩
theorem kBm(t:Nat){x y:Operand}{H:ByteArray->Bool}{p:Int->Bool}(V:TX i x H)(W:KP i y p)(Y:SO i (some t) (Op.build 197 #[(0,x),(2,y),(3,Operand.const (Value.int IntKind.i64 1))]):=by unfold SO;kernel_rfl) (U:iX t= .shape ⟨H,[],some p,1⟩:=by rfl) (X:12<=t/\t<=117:=by decide) (R:kY i=none/\i≠0/\i≠136/\i≠137:=by decide):jQ i:=by
 intro n Z z u r q A a w Q T B F;obtain⟨o,S,O,G,P⟩:=mP Y;obtain⟨N,L,E,I⟩:=V B F;obtain⟨M,J,D,C⟩:=W B F;refine kU T B F S P O X R (v:=.agg #[.func (Fn.func N) #[] L,.slice none 0 0,.func (Fn.func M) #[] J,.int .i64 1]) (w':=w) (by simp only[execOp,G,List.map_toArray,List.map_cons,List.map_nil,E,D];go_simp) (Below.refl _ _) ?_;rw[U];exact⟨_,_,_,_,rfl,I,(by intro i p h;simp at h),C⟩
theorem OM(t:Nat){x0:Operand}{E:Int->Bool}(J:KP i x0 E)(T:SO i (some t) (Op.buildSlice 195 1 #[(0,x0)]):=by unfold SO;kernel_rfl) (R:iX t= .qG [E]:=by rfl) (S:12<=t/\t<=117:=by decide) (N:kY i=none/\i≠0/\i≠136/\i≠137:=by decide):jQ i:=by
 intro Z U V W X Y A a w Q P H I;obtain⟨o,O,L,D,M⟩:=mP T;obtain⟨G,F,C,B⟩:=J H I;refine kU P H I O M L S N (v:=.slice (some ⟨w.heap.size,0,none⟩) 1 1) (w':=w.alloc (.cells #[.func (Fn.func G) #[] F] 54)) (by simp only[execOp,D,List.map_toArray,List.map_cons,List.map_nil,C];go_simp) (ag _ _) ?_;rw[R];exact⟨_,_,rfl,KZ w 54 [.func (Fn.func G) #[] F] [E] (.cons B .nil)⟩
theorem Zy(t:Nat){x0 O:Operand}{I p1:Int->Bool}(P:KP i x0 I)(R:KP i O p1)(Z:SO i (some t) (Op.buildSlice 195 2 #[(0,x0),(1,O)]):=by unfold SO;kernel_rfl) (X:iX t= .qG [I,p1]:=by rfl) (Y:12<=t/\t<=117:=by decide) (U:kY i=none/\i≠0/\i≠136/\i≠137:=by decide):jQ i:=by
 intro q z y x u r A a w Q W B G;obtain⟨o,V,S,H,T⟩:=mP Z;obtain⟨M,J,E,C⟩:=P B G;obtain⟨N,L,F,D⟩:=R B G;refine kU W B G V T S Y U (v:=.slice (some ⟨w.heap.size,0,none⟩) 2 2) (w':=w.alloc (.cells #[.func (Fn.func M) #[] J,.func (Fn.func N) #[] L] 54)) (by simp only[execOp,H,List.map_toArray,List.map_cons,List.map_nil,E,F];go_simp) (ag _ _) ?_;rw[X];exact⟨_,_,rfl,KZ w 54 [.func (Fn.func M) #[] J,.func (Fn.func N) #[] L] [I,p1] (.cons C (.cons D .nil))⟩
theorem kF3(t:Nat){x0 T U:Operand}{J p1 L:Int->Bool}(V:KP i x0 J)(W:KP i T p1)(X:KP i U L)(n:SO i (some t) (Op.buildSlice 195 3 #[(0,x0),(1,T),(2,U)]):=by unfold SO;kernel_rfl) (u:iX t= .qG [J,p1,L]:=by rfl) (r:12<=t/\t<=117:=by decide) (z:kY i=none/\i≠0/\i≠136/\i≠137:=by decide):jQ i:=by
 intro f m l k j g C a w Q x A B;obtain⟨o,y,Y,I,Z⟩:=mP n;obtain⟨P,M,F,D⟩:=V A B;obtain⟨R,N,G,E⟩:=W A B;obtain⟨S,O,H,q⟩:=X A B;refine kU x A B y Z Y r z (v:=.slice (some ⟨w.heap.size,0,none⟩) 3 3) (w':=w.alloc (.cells #[.func (Fn.func P) #[] M,.func (Fn.func R) #[] N,.func (Fn.func S) #[] O] 54)) (by simp only[execOp,I,List.map_toArray,List.map_cons,List.map_nil,F,G,H];go_simp) (ag _ _) ?_;rw[u];exact⟨_,_,rfl,KZ w 54 [.func (Fn.func P) #[] M,.func (Fn.func R) #[] N,.func (Fn.func S) #[] O] [J,p1,L] (.cons D (.cons E (.cons q .nil)))⟩
theorem U9(t:Nat)(A:Int)(N:SO i (some t) (Op.buildSlice 28 1 #[(0,Operand.const (Value.int IntKind.i64 A))]):=by unfold SO;kernel_rfl) (L:iX t= .ints [A]:=by rfl) (M:12<=t/\t<=117:=by decide) (H:kY i=none/\i≠0/\i≠136/\i≠137:=by decide):jQ i:=by
 intro U O P R S T B a w Q J D G;obtain⟨o,I,E,C,F⟩:=mP N;refine kU J D G I F E M H (v:=.slice (some ⟨w.heap.size,0,none⟩) 1 1) (w':=w.alloc (.cells #[.int .i64 A] 3)) (by simp only[execOp,C];go_simp) (ag _ _) ?_;rw[L];exact⟨_,_,rfl,Kz w 3 [A]⟩
theorem kI2(t:Nat)(A B:Int)(O:SO i (some t) (Op.buildSlice 28 2 #[(0,Operand.const (Value.int IntKind.i64 A)),(1,Operand.const (Value.int IntKind.i64 B))]):=by unfold SO;kernel_rfl) (M:iX t= .ints [A,B]:=by rfl) (N:12<=t/\t<=117:=by decide) (I:kY i=none/\i≠0/\i≠136/\i≠137:=by decide):jQ i:=by
 intro V P R S T U C a w Q L E H;obtain⟨o,J,F,D,G⟩:=mP O;refine kU L E H J G F N I (v:=.slice (some ⟨w.heap.size,0,none⟩) 2 2) (w':=w.alloc (.cells #[.int .i64 A,.int .i64 B] 3)) (by simp only[execOp,D];go_simp) (ag _ _) ?_;rw[M];exact⟨_,_,rfl,Kz w 3 [A,B]⟩
theorem kS2(t:Nat)(A B:ByteArray)(O:SO i (some t) (Op.buildSlice 41 2 #[(0,Operand.const (Value.string A)),(1,Operand.const (Value.string B))]):=by unfold SO;kernel_rfl) (M:iX t= .strs [A,B]:=by rfl) (N:12<=t/\t<=117:=by decide) (I:kY i=none/\i≠0/\i≠136/\i≠137:=by decide):jQ i:=by
 intro V P R S T U C a w Q L E H;obtain⟨o,J,F,D,G⟩:=mP O;refine kU L E H J G F N I (v:=.slice (some ⟨w.heap.size,0,none⟩) 2 2) (w':=w.alloc (.cells #[.string A,.string B] 9)) (by simp only[execOp,D];go_simp) (ag _ _) ?_;rw[M];exact⟨_,_,rfl,Cs w 9 [A,B]⟩
theorem kL(t:Nat)  (O:SO i (some t) (Op.load 99 (Operand.tmp 1)):=by unfold SO;kernel_rfl) (L:iX t= .text df:=by rfl) (N:12<=t/\t<=117:=by decide) (H:kY i=none/\i≠0/\i≠136/\i≠137:=by decide):jQ i:=by
 intro V D P S T U A a w Q J B G;obtain⟨o,I,E,C,F⟩:=mP O;have M:=B.t1;have R:w.cell? ⟨D,0,none⟩=some (.func (Fn.func 53) #[] #[]):=B.k1.cell 0;refine kU J B G I F E N H (v:=.func (Fn.func 53) #[] #[]) (w':=w) (by simp only[execOp,C];go_simp) (Below.refl _ _) ?_;rw[L];exact U6 w
theorem kM2(t:Nat)  (N:SO i (some t) (Op.move (Operand.tmp 2)):=by unfold SO;kernel_rfl) (J:iX t= .kind (bS [11]):=by rfl) (M:12<=t/\t<=117:=by decide) (G:kY i=none/\i≠0/\i≠136/\i≠137:=by decide):jQ i:=by
 intro U P R O S T A a w Q I B F;obtain⟨o,H,D,C,E⟩:=mP N;have L:=B.t2;refine kU I B F H E D M G (v:=O) (w':=w) (by simp only[execOp,C];go_simp) (Below.refl _ _) ?_;rw[J];exact B.k2
theorem BC(t:Nat)  (N:SO i (some t) (Op.move (Operand.tmp 3)):=by unfold SO;kernel_rfl) (J:iX t= .kind (aQ):=by rfl) (M:12<=t/\t<=117:=by decide) (G:kY i=none/\i≠0/\i≠136/\i≠137:=by decide):jQ i:=by
 intro U O P R S T A a w Q I C F;obtain⟨o,H,D,B,E⟩:=mP N;have L:=C.t3;refine kU I C F H E D M G (v:=.func (Fn.func 190) #[] #[]) (w':=w) (by simp only[execOp,B];go_simp) (Below.refl _ _) ?_;rw[J];exact ZC w
theorem kM4(t:Nat)  (N:SO i (some t) (Op.move (Operand.tmp 4)):=by unfold SO;kernel_rfl) (J:iX t= .kind (gL dC):=by rfl) (M:12<=t/\t<=117:=by decide) (G:kY i=none/\i≠0/\i≠136/\i≠137:=by decide):jQ i:=by
 intro U P R S O T A a w Q I B F;obtain⟨o,H,D,C,E⟩:=mP N;have L:=B.t4;refine kU I B F H E D M G (v:=O) (w':=w) (by simp only[execOp,C];go_simp) (Below.refl _ _) ?_;rw[J];exact B.k4
theorem kO(t u:Nat)(l:List Int)(T:SO i (some t) (Op.call { callee:=Callee.value (Operand.func 189),args:=#[Operand.tmp u],argTypes:=#[28] }):=by unfold SO;kernel_rfl) (h:rG i u:=by unfold rG;kernel_rfl) (P:iX u= .ints l:=by rfl) (O:iX t= .kind (bS l):=by rfl) (I:l.length<=1000000:=by decide) (S:12<=t/\t<=117:=by decide) (J:kY i=none/\i≠0/\i≠136/\i≠137:=by decide):jQ i:=by
 intro z U V X Y Z B a w Q N D F;obtain⟨o,L,G,C,H⟩:=mP T;obtain⟨v,R,E⟩:=D.dep F h;rw[P]at E;obtain⟨A,c,rfl,M⟩:=E;have W:=uN R;refine Gb N D F L H G S J (f:=189) (args:=#[.slice A l.length c]) (by simp only[execOp,C];go_simp) ?_;rw[O];exact U2 A l.length c l w M rfl I
theorem kW(t u:Nat)(l:List ByteArray)(T:SO i (some t) (Op.call { callee:=Callee.value (Operand.func 193),args:=#[Operand.tmp u],argTypes:=#[41] }):=by unfold SO;kernel_rfl) (h:rG i u:=by unfold rG;kernel_rfl) (P:iX u= .strs l:=by rfl) (O:iX t= .text (nL l):=by rfl) (I:l.length<=1000000:=by decide) (S:12<=t/\t<=117:=by decide) (J:kY i=none/\i≠0/\i≠136/\i≠137:=by decide):jQ i:=by
 intro z U V X Y Z B a w Q N D F;obtain⟨o,L,G,C,H⟩:=mP T;obtain⟨v,R,E⟩:=D.dep F h;rw[P]at E;obtain⟨A,c,rfl,M⟩:=E;have W:=uN R;refine Gb N D F L H G S J (f:=193) (args:=#[.slice A l.length c]) (by simp only[execOp,C];go_simp) ?_;rw[O];exact Qt A l.length c l w M rfl I
theorem kQ(t u:Nat)(p:Int->Bool)(P:SO i (some t) (Op.call { callee:=Callee.value (Operand.func 191),args:=#[Operand.tmp u],argTypes:=#[54] }):=by unfold SO;kernel_rfl) (h:rG i u:=by unfold rG;kernel_rfl) (M:iX u= .kind p:=by rfl) (L:iX t= .kind (gL p):=by rfl) (O:12<=t/\t<=117:=by decide) (H:kY i=none/\i≠0/\i≠136/\i≠137:=by decide):jQ i:=by
 intro X R S U V W A a w Q J C E;obtain⟨o,I,F,B,G⟩:=mP P;obtain⟨v,N,D⟩:=C.dep E h;rw[M]at D;have T:=uN N;refine Gb J C E I G F O H (f:=191) (args:=#[v]) (by simp only[execOp,B];go_simp) ?_;rw[L];exact Fx v p w D
theorem kN(k:Int)(u:Nat)(O:SO i none (Op.insert 191 (Operand.tmp 11) (Operand.const (Value.int IntKind.i64 k)) (Operand.tmp u)):=by unfold SO;kernel_rfl) (h:rG i u:=by unfold rG;kernel_rfl) (J:kY i=some k:=by rfl) (F:((dH Tryz.f141 4).toArray[i]?).map (fun o=>o.after.toList.any fun e=>Region.binds .any e&&(e.on==0))=some true:=by kernel_rfl) (D:(mf k).map Tg.shape=some (iX u):=by rfl):jQ i:=by
 intro V P R S T U A a w Q M E B;obtain⟨o,L,H,C,I⟩:=mP O;obtain⟨v,N,G⟩:=E.dep B h;exact step_ins M E B L I H C J (uN N) (AO B F) D G
end
theorem so_0:((dH Tryz.f141 4).toArray[0]?).map (fun o=>(o.dst,o.op,o.guard))=some (some 11,Op.makeMap 191 none,none):=by kernel_rfl
theorem so_40:((dH Tryz.f141 4).toArray[40]?).map (fun o=>(o.dst,o.op,o.guard))=some (some 43,Op.makeFunc (Fn.func 195) #[] #[Operand.tmp 5,Operand.tmp 1],none):=by kernel_rfl
theorem op_40:jQ 40:=by
 intro R D E O P N B a w Q J A H;obtain⟨o,I,F,C,G⟩:=mP so_40;have L:=A.t1;have M:=A.t5;exact kU J A H I G F (by decide) (by decide) (v:=.func (Fn.func 195) #[] #[.pointer (some ⟨E,0,none⟩),.pointer (some ⟨D,0,none⟩)]) (w':=w) (by simp only[execOp,C];go_simp) (Below.refl _ _) (either_fn w E D N _ _ _ A.q5 (U6 w) A.k5 A.k1)
theorem so_129:((dH Tryz.f141 4).toArray[129]?).map (fun o=>(o.dst,o.op,o.guard))=some (some 112,Op.buildSlice 41 13 #[(0,Operand.const (Value.string { data:=#[111,114] })),(1,Operand.const (Value.string { data:=#[97,110,100] })),(2,Operand.const (Value.string { data:=#[61,61] })),(3,Operand.const (Value.string { data:=#[33,61] })),(4,Operand.const (Value.string { data:=#[60] })),(5,Operand.const (Value.string { data:=#[60,61] })),(6,Operand.const (Value.string { data:=#[62] })),(7,Operand.const (Value.string { data:=#[62,61] })),(8,Operand.const (Value.string { data:=#[43] })),(9,Operand.const (Value.string { data:=#[45] })),(10,Operand.const (Value.string { data:=#[42] })),(11,Operand.const (Value.string { data:=#[47] })),(12,Operand.const (Value.string { data:=#[37] }))],none):=by kernel_rfl
theorem op_129:jQ 129:=by
 intro O I J L M N A a w Q H C F;obtain⟨o,G,D,B,E⟩:=mP so_129;refine kU H C F G E D (by decide) (by decide) (v:=.slice (some ⟨w.heap.size,0,none⟩) 13 13) (w':=w.alloc (.cells #[.string ⟨#[111,114]⟩,.string ⟨#[97,110,100]⟩,.string ⟨#[61,61]⟩,.string ⟨#[33,61]⟩,.string ⟨#[60]⟩,.string ⟨#[60,61]⟩,.string ⟨#[62]⟩,.string ⟨#[62,61]⟩,.string ⟨#[43]⟩,.string ⟨#[45]⟩,.string ⟨#[42]⟩,.string ⟨#[47]⟩,.string ⟨#[37]⟩] 9)) (by simp only[execOp,B];go_simp) (ag _ _) ?_;exact⟨_,_,rfl,Cs w 9 BU⟩
theorem so_136:((dH Tryz.f141 4).toArray[136]?).map (fun o=>(o.dst,o.op,o.guard))=some (some 118,Op.move (Operand.tmp 11),none):=by kernel_rfl
theorem so_137:((dH Tryz.f141 4).toArray[137]?).map (fun o=>(o.dst,o.op,o.guard))=some (some 0,Op.assign (Operand.tmp 118),none):=by kernel_rfl
end Go.Proofs.YtoepemlnlpamlaaGreat
