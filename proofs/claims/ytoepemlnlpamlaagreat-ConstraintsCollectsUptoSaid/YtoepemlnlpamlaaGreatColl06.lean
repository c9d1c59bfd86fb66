/- Collect agrees with the reference. Part 6: Shp3 Shp4 Shp4i Shp5 Shp8 Fits Shaped Ord4 VOk. -/
import Derived.Laws.EntriesVeiled
import Derived.Test.YtoepemlnlpamlaaGreatColl05
set_option maxRecDepth 100000
set_option maxHeartbeats 4000000
namespace Go.Proofs.YtoepemlnlpamlaaGreat
open Go.RowKit
structure uM where
 text:ByteArray->Bool
 kids:List (Int->Bool)
 list:Option (Int->Bool)
 most:Int
def bA(l:List Int):Int->Bool:=fun k=>l.any fun y=>decide (k=y)
def eU(p:Int->Bool):Int->Bool:=fun k=>decide (k=0) || p k
def jw(l:List ByteArray):ByteArray->Bool:=fun s=>fH l s
def bO:ByteArray->Bool:=fun s=>qA s.data.toList
def dM:ByteArray->Bool:=fun s=>decide (s.size=0)
def Dv:List ByteArray:=[⟨#[105,110,116]⟩,⟨#[98,111,111,108]⟩]
def Mq:ByteArray->Bool:=fun s=>jw Dv s || bO s
def Fa:List ByteArray:=[⟨#[116,114,117,101]⟩,⟨#[102,97,108,115,101]⟩]
def Ng:List ByteArray:=[⟨#[45]⟩,⟨#[110,111,116]⟩]
def sj:List ByteArray:=[⟨#[111,114]⟩,⟨#[97,110,100]⟩,⟨#[61,61]⟩,⟨#[33,61]⟩,⟨#[60]⟩,⟨#[60,61]⟩,⟨#[62]⟩,⟨#[62,61]⟩,⟨#[43]⟩,⟨#[45]⟩,⟨#[42]⟩,⟨#[47]⟩,⟨#[37]⟩]
def lT:Nat->Option uM
 | 0=>some ⟨dM,[],none,0⟩
 | 2=>some ⟨dM,[],some (bA [3,5]),0⟩
 | 3=>some ⟨bO,[],some (bA [4]),1⟩
 | 4=>some ⟨bO,[bA [9]],none,0⟩
 | 5=>some ⟨bO,[bA [6],eU bU,bA [11]],none,0⟩
 | 6=>some ⟨dM,[],some (bA [7,8]),0⟩
 | 7=>some ⟨bO,[eU bU],none,0⟩
 | 8=>some ⟨bO,[eU bU],none,0⟩
 | 9=>some ⟨Mq,[],none,0⟩
 | 10=>some ⟨iL,[],none,0⟩
 | 11=>some ⟨dM,[],some kg,0⟩
 | 12=>some ⟨bO,[eU bU,aN],none,0⟩
 | 13=>some ⟨dM,[iC,aN],none,0⟩
 | 14=>some ⟨dM,[aN,bA [11],eU (bA [11,14])],none,0⟩
 | 15=>some ⟨dM,[aN,bA [11]],none,0⟩
 | 16=>some ⟨bO,[aN,aN,bA [11]],none,0⟩
 | 17=>some ⟨dM,[eU aN],none,0⟩
 | 18=>some ⟨dM,[aN],none,0⟩
 | 19=>some ⟨bO,[],some aN,0⟩
 | 20=>some ⟨bO,[],none,0⟩
 | 21=>some ⟨dM,[bA [20],aN],none,0⟩
 | 22=>some ⟨bO,[bA [20]],none,0⟩
 | 23=>some ⟨dM,[bA [20]],none,0⟩
 | 24=>some ⟨iL,[],none,0⟩
 | 25=>some ⟨jw Fa,[],none,0⟩
 | 26=>some ⟨dM,[],some aN,1⟩
 | 27=>some ⟨bO,[],some aN,0⟩
 | 28=>some ⟨jw Ng,[aN],none,0⟩
 | 29=>some ⟨jw sj,[aN,aN],none,0⟩
 | _=>none
def jB:Int->Option uM
 | .ofNat n=>lT n
 | .negSucc _=>none
def IC(w:World)(A:Option Addr)(ps:List (Int->Bool)):Prop:=
 ∀i p,ps[i]? =some p->∃b off v,A=some ⟨b,off,none⟩/\w.cell? ⟨b,off+i,none⟩=some v/\iW w v p
theorem IC.kc{w w':World}{A:Option Addr}{ps:List (Int->Bool)}(h:IC w A ps)(C:KC w w')(H:w.heap.size<=w'.heap.size):IC w' A ps:=by
 intro i p G;obtain⟨b,B,v,D,E,F⟩:=h i p G;exact⟨b,B,v,D,C.cell E,F.kc C H⟩
def ListFn(w:World)(v:Value):Option (Int->Bool)->Prop
 | none=>v= .nilFunc
 | some p=>iW w v p
def pI(w:World)(v:Value)(sh:uM):Prop:=
 ∃tv A c lv,v= .agg #[tv,.slice A sh.kids.length c,lv,.int .i64 sh.most]/\nN w tv sh.text/\IC w A sh.kids/\ListFn w lv sh.list
theorem pI.kc{w w':World}{v:Value}{sh:uM}(h:pI w v sh)(C:KC w w')(D:w.heap.size<=w'.heap.size):pI w' v sh:=by
 obtain⟨J,A,c,I,F,G,H,B⟩:=h;refine⟨J,A,c,I,F,G.kc C D,H.kc C D,?_⟩
 cases E:sh.list with
 | none=>rw[E]at B;exact B
 | some p=>rw[E]at B;exact iW.kc B C D
inductive Tg where
 | any
 | ints (l:List Int)
 | strs (l:List ByteArray)
 | kind (p:Int->Bool)
 | text (p:ByteArray->Bool)
 | pF (ps:List (Int->Bool))
 | shape (sh:uM)
def yj(w:World)(v:Value):Tg->Prop
 | .any=>True
 | .ints l=> ∃A c,v= .slice A l.length c/\aS 1 gu w w.heap.size A l
 | .strs l=> ∃A c,v= .slice A l.length c/\aS 1 nE w w.heap.size A l
 | .kind p=>iW w v p
 | .text p=>nN w v p
 | .pF ps=> ∃A c,v= .slice A ps.length c/\IC w A ps
 | .shape sh=>pI w v sh
theorem yj.kc{w w':World}{v:Value}(B:KC w w')(C:w.heap.size<=w'.heap.size):∀{g:Tg},yj w v g->yj w' v g
 | .any,h=>h
 | .ints _,h=>by
  obtain⟨A,c,D,E⟩:=h;exact⟨A,c,D,(E.kc B).mono C⟩
 | .strs _,h=>by
  obtain⟨A,c,D,E⟩:=h;exact⟨A,c,D,(E.kc B).mono C⟩
 | .kind _,h=>iW.kc h B C
 | .text _,h=>nN.kc h B C
 | .pF _,h=>by
  obtain⟨A,c,D,E⟩:=h;exact⟨A,c,D,E.kc B C⟩
 | .shape _,h=>pI.kc h B C
def BX(id:Nat):Code->Option (List Oper)
 | .region i ops _=>if i=id then some ops.toList else none
 | .seq a b=>(BX id a).or (BX id b)
 | .cond _ a b=>(BX id a).or (BX id b)
 | .block _ a=>BX id a
 | .loop a=>BX id a
 | .scope a=>BX id a
 | _=>none
def dL(f:Func)(id:Nat):List Oper:=((f.body).bind (BX id)).getD []
theorem Nk:(dL Tryz.f141 4).length=138:=by kernel_rfl
theorem AJ{C:Array Oper}{md:Region.Mode}{A:Array Bool}{i j:Nat}(G:i∈Region.ready md C A)(h:(C[i]?).map (fun o=>o.after.toList.any fun e=>Region.binds md e&&(e.on==j))=some true):A.getD j false=true:=by
 obtain⟨-,o,H,B⟩:=mem_ready.1 G;rw[H]at h;simp only[Option.map_some,acf,List.any_eq_true,acb,beq_iff_eq]at h;obtain⟨e,D,E,F⟩:=h;rw[<- F];exact B e (by simpa using D) E
theorem tH{a:Act}{t:Nat}{v:Value}(h:a.tmps[t]? =some v):a.eval (.tmp t)=v:=by
 simp[Act.eval,h]
def ic:Nat->Tg
 | 0=>.any
 | 11=>.any
 | 12=>.shape ⟨dM,[],none,0⟩
 | 13=>.ints [3,5]
 | 14=>.kind (bA [3,5])
 | 15=>.shape ⟨dM,[],some (bA [3,5]),0⟩
 | 16=>.text bO
 | 17=>.ints [4]
 | 18=>.kind (bA [4])
 | 19=>.shape ⟨bO,[],some (bA [4]),1⟩
 | 20=>.text bO
 | 21=>.ints [9]
 | 22=>.kind (bA [9])
 | 23=>.pF [bA [9]]
 | 24=>.shape ⟨bO,[bA [9]],none,0⟩
 | 25=>.text bO
 | 26=>.ints [6]
 | 27=>.kind (bA [6])
 | 28=>.kind (eU bU)
 | 29=>.kind (bA [11])
 | 30=>.pF [bA [6],eU bU,bA [11]]
 | 31=>.shape ⟨bO,[bA [6],eU bU,bA [11]],none,0⟩
 | 32=>.ints [7,8]
 | 33=>.kind (bA [7,8])
 | 34=>.shape ⟨dM,[],some (bA [7,8]),0⟩
 | 35=>.text bO
 | 36=>.kind (eU bU)
 | 37=>.pF [eU bU]
 | 38=>.shape ⟨bO,[eU bU],none,0⟩
 | 39=>.text bO
 | 40=>.kind (eU bU)
 | 41=>.pF [eU bU]
 | 42=>.shape ⟨bO,[eU bU],none,0⟩
 | 43=>.text Mq
 | 44=>.shape ⟨Mq,[],none,0⟩
 | 45=>.shape ⟨iL,[],none,0⟩
 | 46=>.shape ⟨dM,[],some kg,0⟩
 | 47=>.text bO
 | 48=>.kind (eU bU)
 | 49=>.kind (aN)
 | 50=>.pF [eU bU,aN]
 | 51=>.shape ⟨bO,[eU bU,aN],none,0⟩
 | 52=>.kind (aN)
 | 53=>.pF [iC,aN]
 | 54=>.shape ⟨dM,[iC,aN],none,0⟩
 | 55=>.kind (aN)
 | 56=>.kind (bA [11])
 | 57=>.ints [11,14]
 | 58=>.kind (bA [11,14])
 | 59=>.kind (eU (bA [11,14]))
 | 60=>.pF [aN,bA [11],eU (bA [11,14])]
 | 61=>.shape ⟨dM,[aN,bA [11],eU (bA [11,14])],none,0⟩
 | 62=>.kind (aN)
 | 63=>.kind (bA [11])
 | 64=>.pF [aN,bA [11]]
 | 65=>.shape ⟨dM,[aN,bA [11]],none,0⟩
 | 66=>.text bO
 | 67=>.kind (aN)
 | 68=>.kind (aN)
 | 69=>.kind (bA [11])
 | 70=>.pF [aN,aN,bA [11]]
 | 71=>.shape ⟨bO,[aN,aN,bA [11]],none,0⟩
 | 72=>.kind (aN)
 | 73=>.kind (eU (aN))
 | 74=>.pF [eU (aN)]
 | 75=>.shape ⟨dM,[eU (aN)],none,0⟩
 | 76=>.kind (aN)
 | 77=>.pF [aN]
 | 78=>.shape ⟨dM,[aN],none,0⟩
 | 79=>.text bO
 | 80=>.kind (aN)
 | 81=>.shape ⟨bO,[],some (aN),0⟩
 | 82=>.text bO
 | 83=>.shape ⟨bO,[],none,0⟩
 | 84=>.ints [20]
 | 85=>.kind (bA [20])
 | 86=>.kind (aN)
 | 87=>.pF [bA [20],aN]
 | 88=>.shape ⟨dM,[bA [20],aN],none,0⟩
 | 89=>.text bO
 | 90=>.ints [20]
 | 91=>.kind (bA [20])
 | 92=>.pF [bA [20]]
 | 93=>.shape ⟨bO,[bA [20]],none,0⟩
 | 94=>.ints [20]
 | 95=>.kind (bA [20])
 | 96=>.pF [bA [20]]
 | 97=>.shape ⟨dM,[bA [20]],none,0⟩
 | 98=>.shape ⟨iL,[],none,0⟩
 | 99=>.strs Fa
 | 100=>.text (jw Fa)
 | 101=>.shape ⟨(jw Fa),[],none,0⟩
 | 102=>.kind (aN)
 | 103=>.shape ⟨dM,[],some (aN),1⟩
 | 104=>.text bO
 | 105=>.kind (aN)
 | 106=>.shape ⟨bO,[],some (aN),0⟩
 | 107=>.strs Ng
 | 108=>.text (jw Ng)
 | 109=>.kind (aN)
 | 110=>.pF [aN]
 | 111=>.shape ⟨(jw Ng),[aN],none,0⟩
 | 112=>.strs sj
 | 113=>.text (jw sj)
 | 114=>.kind (aN)
 | 115=>.kind (aN)
 | 116=>.pF [aN,aN]
 | 117=>.shape ⟨(jw sj),[aN,aN],none,0⟩
 | 118=>.any
 | _=>.any
def jZ:Nat->Option Int
 | 2=>some 0
 | 6=>some 2
 | 11=>some 3
 | 17=>some 4
 | 25=>some 5
 | 29=>some 6
 | 34=>some 7
 | 39=>some 8
 | 42=>some 9
 | 44=>some 10
 | 46=>some 11
 | 52=>some 12
 | 56=>some 13
 | 64=>some 14
 | 69=>some 15
 | 76=>some 16
 | 81=>some 17
 | 85=>some 18
 | 89=>some 19
 | 92=>some 20
 | 98=>some 21
 | 104=>some 22
 | 109=>some 23
 | 111=>some 24
 | 115=>some 25
 | 118=>some 26
 | 122=>some 27
 | 128=>some 28
 | 135=>some 29
 | _=>none
def MapI(w0:World)(listed:Array Bool)(a:Act)(w:World):Prop:=
 listed.getD 0 false=true->∃r m,a.tmps[11]? =some (.map (some r))/\w0.heap.size<=r/\aY iU w r m/\(∀x∈m,∃sh,jB x.1=some sh/\pI w x.2 sh) /\
  (∀i k,jZ i=some k->listed.getD i false=true->(mM m k).isSome=true)/\(listed.getD 136 false=true->a.tmps[118]? =some (.map (some r)))/\(listed.getD 137 false=true->a.tmps[0]? =some (.map (some r)))
structure o7 (w0:World) (b1 b5:Nat) (v2 v4 v5:Value) (listed:Array Bool) (a:Act) (w:World):Prop where
 size:a.tmps.size=119
 t1:a.tmps[1]? =some (.pointer (some ⟨b1,0,none⟩))
 t2:a.tmps[2]? =some v2
 t3:a.tmps[3]? =some (.func (Fn.func 190) #[] #[])
 t4:a.tmps[4]? =some v4
 t5:a.tmps[5]? =some (.pointer (some ⟨b5,0,none⟩))
 k1:ah w b1 99 #[.func (Fn.func 53) #[] #[]]
 k2:iW w v2 (bA [11])
 k4:iW w v4 (eU bU)
 k5:ah w b5 99 #[v5]
 q5:nN w v5 (jw Dv)
 tmp:Fg (dL Tryz.f141 4).toArray (fun t w v=>yj w v (ic t)) listed a w
 sQ:MapI w0 listed a w
 ord:∀i,(jZ i≠none\/i=136\/i=137)->listed.getD i false=true->listed.getD 0 false=true
 below:Below w0.heap.size w0 w
 defers:a.defers=[]
theorem lS{i:Nat}{d:Option Nat}{B:Op}(h:((dL Tryz.f141 4).toArray[i]?).map (fun o=>(o.dst,o.op,o.guard))=some (d,B,none)):∃o,(dL Tryz.f141 4).toArray[i]? =some o/\o.dst=d/\o.op=B/\o.guard=none:=by
 cases A:(dL Tryz.f141 4).toArray[i]? with
 | none=>rw[A]at h;cases h
 | some o=>
  rw[A]at h;simp only[Option.map_some,acf,Prod.mk.injEq]at h;exact⟨o,rfl,h.1,h.2.1,h.2.2⟩
theorem o7.get{M:World}{E F:Nat}{I J L:Value}{A:Array Bool}{a:Act}{w:World}(G:o7 M E F I J L A a w){i:Nat}(H:i∈Region.ready .any (dL Tryz.f141 4).toArray A){j u:Nat}
 (C:((dL Tryz.f141 4).toArray[j]?).map (fun o=>o.dst)=some (some u)) (B:((dL Tryz.f141 4).toArray[i]?).map (fun o=>o.after.toList.any fun e=>Region.binds .any e&&(e.on==j))=some true):∃v,a.tmps[u]? =some v/\yj w v (ic u):=by
 cases D:(dL Tryz.f141 4).toArray[j]? with
 | none=>rw[D]at C;cases C
 | some o=>
  rw[D]at C;simp only[Option.map_some,acf]at C;exact G.tmp j o u D C (AJ H B)
def WT(ops:List Oper):Bool:=(List.range ops.length).all fun i=>match ops[i]? with|some o=>o.after.toList.all fun e=>decide (e.on<i)|none=>true
def aaG(ops:List Oper):Bool:=(List.range ops.length).all fun i=>match ops[i]? with|some o=>(match o.dst with|some t=>ops.findIdx (fun x=>x.dst==some t)==i|none=>true)|none=>true
theorem acyc_of{A:List Oper}(h:WT A=true):∀(i:Nat) (o:Oper),A.toArray[i]? =some o->∀e∈o.after,e.on<i:=by
 intro i o C e D;have E:=(acd.1 C).1;unfold WT at h;rw[List.all_eq_true]at h;have B:=h i (by simpa using E);rw[show A[i]? =some o by simpa using C]at B;simp only[List.all_eq_true,decide_eq_true_eq]at B;exact B e (by simpa using D)
theorem Lb{A:List Oper}(h:aaG A=true):∀(i j:Nat) (o B:Oper) (t:Nat),A.toArray[i]? =some o->A.toArray[j]? =some B->o.dst=some t->B.dst=some t->i=j:=by
 have key:∀(i:Nat) (o:Oper) (t:Nat),A.toArray[i]? =some o->o.dst=some t->A.findIdx (fun x=>x.dst==some t)=i:=by
  intro i o t G D;have F:=(acd.1 G).1;unfold aaG at h;rw[List.all_eq_true]at h;have C:=h i (by simpa using F);rw[show A[i]? =some o by simpa using G]at C;simp only[D,beq_iff_eq]at C;exact C
 intro i j o B t F H D E;rw[<- key i o t F D,<- key j B t H E]
theorem sh_acyc:WT (dL Tryz.f141 4)=true:=by kernel_rfl
theorem KI:aaG (dL Tryz.f141 4)=true:=by kernel_rfl
theorem AV{P:Program}{A:Array Oper}{Q:Exit->Act->World->Prop}{i:Nat}{o:Oper}{a:Act}{w:World}{K:Act->World->Prop}(C:A[i]? =some o)(B:o.guard=none)(h:o.wp P a w K Q):wpOp P A Q i K a w:=by
 unfold wpOp;simp only[C];rw[if_pos (by simp[Region.wanted,B])];exact .inl h
theorem eG{A:Array Bool}{i j:Nat}(B:j≠i):(A.setIfInBounds i true).getD j false=A.getD j false:=by
 simp[Array.getD_eq_getD_getElem?,Array.getElem?_setIfInBounds_ne (Ne.symm B)]
theorem o7.put{T:World}{L M:Nat}{Q R S:Value}{B:Array Bool}{a:Act}{w w':World}(C:o7 T L M Q R S B a w)(n:B.size=(dL Tryz.f141 4).toArray.size){i:Nat}{o:Oper}{t:Nat}{v:Value}
 (q:(dL Tryz.f141 4).toArray[i]? =some o) (J:o.dst=some t) (d:12<=t/\t<=117) (A:jZ i=none/\i≠0/\i≠136/\i≠137) (F:Below w.heap.size w w') (g:yj w' v (ic t)):
 o7 T L M Q R S (B.setIfInBounds i true) (a.put o.dst v) w':=by
 have H:=KC.of_below F
 have G:∀u,u≠t->(a.put o.dst v).tmps[u]? =a.tmps[u]? :=fun u l=>by
  rw[J];show(a.tmps.setIfInBounds t v)[u]? =_;rw[Array.getElem?_setIfInBounds_ne (Ne.symm l)]
 refine⟨?_,(G 1 (by omega)).trans C.t1,(G 2 (by omega)).trans C.t2,(G 3 (by omega)).trans C.t3,(G 4 (by omega)).trans C.t4,(G 5 (by omega)).trans C.t5,H.blk C.k1,C.k2.kc H F.size,C.k4.kc H F.size,H.blk C.k5,C.q5.kc H F.size,?_,?_,?_,C.below.trans (F.mono C.below.size),?_⟩
 ·rw[J]
  show(a.tmps.setIfInBounds t v).size=119;simpa using C.size
 ·exact C.tmp.put n (fun t v h=>yj.kc H F.size h) (Lb KI) q J (by rw[C.size];omega) g
 ·intro N
  rw[eG (Ne.symm A.2.1)]at N;obtain⟨r,m,U,V,O,W,X,Y,Z⟩:=C.sQ N;refine⟨r,m,(G 11 (by omega)).trans U,V,O.below F O.lt,fun x f=>?_,fun j k D E=>?_,fun E=>?_,fun E=>?_⟩
  ·obtain⟨sh,z,y⟩:=W x f
   exact⟨sh,z,y.kc H F.size⟩
  ·have I:j≠i:=by rintro rfl;rw[A.1]at D;cases D
   rw[eG I]at E;exact X j k D E
  ·rw[eG (Ne.symm A.2.2.1)]at E
   exact(G 118 (by omega)).trans (Y E)
  rw[eG (Ne.symm A.2.2.2)]at E;exact(G 0 (by omega)).trans (Z E)
 ·intro j D E
  have I:j≠i:=by
   rintro rfl;rcases D with D|D|D
   ·exact D A.1
   ·exact A.2.2.1 D
   exact A.2.2.2 D
  rw[eG I]at E;rw[eG (Ne.symm A.2.1)];exact C.ord j D E
 rw[J];exact C.defers
def jm(i:Nat):Prop:=∀(w0:World) (b1 b5:Nat) (v2 v4 v5:Value) (listed:Array Bool) (a:Act) (w:World) (Q:Exit->Act->World->Prop),listed.size=(dL Tryz.f141 4).toArray.size->o7 w0 b1 b5 v2 v4 v5 listed a w->i∈Region.ready .any (dL Tryz.f141 4).toArray listed ->
 wpOp Tryz.prog (dL Tryz.f141 4).toArray Q i (o7 w0 b1 b5 v2 v4 v5 (listed.setIfInBounds i true)) a w
theorem jT{J:World}{D E:Nat}{G H I:Value}{A:Array Bool}{a:Act}{w:World}{Q:Exit->Act->World->Prop}(R:A.size=(dL Tryz.f141 4).toArray.size)(L:o7 J D E G H I A a w){i:Nat}{o:Oper}{t:Nat}
 (_hi:i∈Region.ready .any (dL Tryz.f141 4).toArray A) (F:(dL Tryz.f141 4).toArray[i]? =some o) (O:o.guard=none) (N:o.dst=some t) (S:12<=t/\t<=117) (B:jZ i=none/\i≠0/\i≠136/\i≠137)
 {v:Value}{w':World}(C:(execOp a.eval o).run Tryz.prog w= .ok (.value v) w') (M:Below w.heap.size w w') (T:yj w' v (ic t)):
 wpOp Tryz.prog (dL Tryz.f141 4).toArray Q i (o7 J D E G H I (A.setIfInBounds i true)) a w:=by
 refine AV (o:=o) F O ?_;unfold Oper.wp;rw[C,Oper.upon_value];exact L.put R F N S B M T
theorem Gm{J:World}{D E:Nat}{G H I:Value}{A:Array Bool}{a:Act}{w:World}{Q:Exit->Act->World->Prop}(S:A.size=(dL Tryz.f141 4).toArray.size)(L:o7 J D E G H I A a w){i:Nat}{o:Oper}{t:Nat}
 (_hi:i∈Region.ready .any (dL Tryz.f141 4).toArray A) (F:(dL Tryz.f141 4).toArray[i]? =some o) (R:o.guard=none) (O:o.dst=some t) (T:12<=t/\t<=117) (B:jZ i=none/\i≠0/\i≠136/\i≠137)
 {f:Nat}{args:Array Value}(C:(execOp a.eval o).run Tryz.prog w= .ok (.enter f args) w) (N:Calls Tryz.prog f args w fun e w'=> ∃v,e= .returned v/\yj w' v (ic t)/\Below w.heap.size w w'):
 wpOp Tryz.prog (dL Tryz.f141 4).toArray Q i (o7 J D E G H I (A.setIfInBounds i true)) a w:=by
 refine AV (o:=o) F R ?_;unfold Oper.wp;rw[C,Oper.upon_enter];refine N.mono ?_;rintro e w' ⟨v,rfl,U,M⟩;exact L.put S F O T B M U
theorem JN(w:World)(B:TypeId)(l:List Int):aS 1 gu (w.alloc (.cells (l.map fun i=>Value.int .i64 i).toArray B)) (w.alloc (.cells (l.map fun i=>Value.int .i64 i).toArray B)).heap.size (some ⟨w.heap.size,0,none⟩) l:=by
 intro k c D;refine⟨w.heap.size,0,rfl,by simp,fun j v A=>?_⟩;have C:=ah.new w B (l.map fun i=>Value.int .i64 i).toArray;rw[C.cell]
 cases j with
 | zero=>
  simp[gu]at A;subst A;simp[D]
 | succ j=>simp[gu]at A
theorem yV(w:World)(B:TypeId)(l:List ByteArray):aS 1 nE (w.alloc (.cells (l.map fun i=>Value.string i).toArray B)) (w.alloc (.cells (l.map fun i=>Value.string i).toArray B)).heap.size (some ⟨w.heap.size,0,none⟩) l:=by
 intro k c D;refine⟨w.heap.size,0,rfl,by simp,fun j v A=>?_⟩;have C:=ah.new w B (l.map fun i=>Value.string i).toArray;rw[C.cell]
 cases j with
 | zero=>
  simp[nE]at A;subst A;simp[D]
 | succ j=>simp[nE]at A
inductive Kn (w:World):List Value->List (Int->Bool)->Prop where
 | nil:Kn w [] []
 | cons {v:Value}{p:Int->Bool}{vs:List Value}{ps:List (Int->Bool)}:iW w v p->Kn w vs ps->Kn w (v::vs) (p::ps)
theorem Kn.get{w:World}:∀{A:List Value}{ps:List (Int->Bool)},Kn w A ps->∀(i:Nat) (p:Int->Bool),ps[i]? =some p->∃v,A[i]? =some v/\iW w v p
 | _,_,.nil,i,p,h=>by simp at h
 | _,_,.cons h1 h2,0,p,h=>by
  simp at h;subst h;exact⟨_,rfl,h1⟩
 | _,_,.cons h1 h2,i+1,p,h=>by
  obtain⟨v,B,C⟩:=Kn.get h2 i p (by simpa using h);exact⟨v,by simpa using B,C⟩
theorem J5(w:World)(B:TypeId)(A:List Value)(ps:List (Int->Bool))(h:Kn w A ps):IC (w.alloc (.cells A.toArray B)) (some ⟨w.heap.size,0,none⟩) ps:=by
 intro i p F;obtain⟨v,C,D⟩:=h.get i p F;refine⟨w.heap.size,0,v,rfl,?_,D.below (ai _ _)⟩;have E:=ah.new w B A.toArray;rw[E.cell];simpa using C
theorem GH{w:World}{v:Value}{p:Int->Bool}(h:iW w v p):∃B A,v= .func (Fn.func B) #[] A:=by
 obtain⟨B,A,rfl,-⟩:=h;exact⟨B,A,rfl⟩
theorem Ni{w:World}{v:Value}{p:ByteArray->Bool}(h:nN w v p):∃B A,v= .func (Fn.func B) #[] A:=by
 obtain⟨B,A,rfl,-⟩:=h;exact⟨B,A,rfl⟩
section
variable {K:Type} [DecidableEq K]
theorem Qi(k:K):∀(m:List (K×Value)) (i:Nat),(mq k m i).isSome=true↔k∈m.map (·.1)
 | [],i=>by simp[mq]
 | x::m,i=>by
  simp only[mq,List.map_cons,List.mem_cons];by_cases h:k=x.1
  ·simp[h]
  rw[if_neg h,Qi k m (i+1)];simp[h]
theorem NF{m:List (K×Value)}{k:K}:(mM m k).isSome=true↔k∈m.map (·.1):=by
 unfold mM;rw[Option.isSome_map];exact Qi k m 0
theorem X9{m:List (K×Value)}{k:K}{v:Value}(h:mM m k=some v):(k,v)∈m:=by
 unfold mM at h
 cases A:mq k m 0 with
 | none=>rw[A]at h;cases h
 | some x=>
  obtain⟨i,u⟩:=x;rw[A]at h;simp at h;subst h;obtain⟨n,C,B⟩:=Ik k m 0 i u A;exact acn B
theorem Z9{m:List (K×Value)}{k:K}{v:Value}{x:K×Value}(h:x∈oD m k v):x∈m\/x=(k,v):=by
 unfold oD at h;split at h
 ·simp at h
  exact h
 rename_i i u hp
 rw[List.mem_iff_getElem?]at h;obtain⟨j,A⟩:=h;rw[List.getElem?_modify]at A
 cases B:m[j]? with
 | none=>rw[B]at A;simp at A
 | some y=>
  rw[B]at A;simp at A;split at A
  ·exact .inr A.symm
  exact .inl (by rw[<- A];exact acn B)
theorem Nl{m:List (K×Value)}{k:K}{v:Value}:k∈(oD m k v).map (·.1)/\∀j∈m.map (·.1),j∈(oD m k v).map (·.1):=by
 unfold oD;split
 ·simp
  intro j x E;exact .inl ⟨x,E⟩
 rename_i i u hp
 obtain⟨n,F,B⟩:=Ik k m 0 i u hp;have D:i=n:=by omega
 subst D
 have C:(m.modify i fun _=>(k,v)).map (·.1)=m.map (·.1):=by
  apply List.ext_getElem?
  intro j;rw[List.getElem?_map,List.getElem?_map,List.getElem?_modify];by_cases A:i=j
  ·subst A
   simp[B]
  cases m[j]? <;>simp[A]
 rw[C];exact⟨List.mem_map.2 ⟨(k,u),acn B,rfl⟩,fun j A=>A⟩
end
theorem Z7{w0:World}{y q:Nat}{v2 v4 v5:Value}{A:Array Bool}{a:Act}{w:World}{Q:Exit->Act->World->Prop}(hs:A.size=(dL Tryz.f141 4).toArray.size)(C:o7 w0 y q v2 v4 v5 A a w){i:Nat}{o:Oper}
 (_hi:i∈Region.ready .any (dL Tryz.f141 4).toArray A) (ho:(dL Tryz.f141 4).toArray[i]? =some o) (b:o.guard=none) (c:o.dst=none) {k:Int}{u:Nat}{v:Value}
 (W:o.op=Op.insert 191 (Operand.tmp 11) (Operand.const (Value.int IntKind.i64 k)) (Operand.tmp u)) (D:jZ i=some k) (he:a.eval (.tmp u)=v) (n:A.getD 0 false=true) (E:(jB k).map Tg.shape=some (ic u)) (d:yj w v (ic u)):
 wpOp Tryz.prog (dL Tryz.f141 4).toArray Q i (o7 w0 y q v2 v4 v5 (A.setIfInBounds i true)) a w:=by
 obtain⟨r,m,l,h2,f,h4,h5,h6,h7⟩:=C.sQ n
 obtain⟨sh,X,Y⟩:∃sh,jB k=some sh/\ic u= .shape sh:=by
  cases S:jB k with
  | none=>rw[S]at E;cases E
  | some sh=>rw[S]at E;simp at E;exact⟨sh,rfl,E.symm⟩
 rw[Y]at d;obtain⟨w2,N,U,I,a1⟩:=iO (P:=Tryz.prog) (KK:=iU) (t:=191) (kt:=3) (et:=197) Tryz.underlying191 Tryz.underlying3 f k v;have H:=tH l
 have B:KC w w2:=by
  intro g cs ty fr J;refine I.block g (acd.1 J).1 ?_;intro e1;cases e1
  obtain⟨es,T,O,-⟩:=f;rw[J]at O;cases O
 have V:i≠0:=by rintro rfl;cases D
 have M:∀x,a.put none x=a:=fun _=>rfl
 refine AV (o:=o) ho b ?_;unfold Oper.wp
 have G:(execOp a.eval o).run Tryz.prog w= .ok .skip w2:=by
  simp only[execOp,W];rw[H,he];simp only[Act.eval];have:=N;unfold iU at this;simp only at this;simp[this,Result.andThen]
 rw[G,Oper.upon_skip,c,M];refine⟨C.size,C.t1,C.t2,C.t3,C.t4,C.t5,B.blk C.k1,C.k2.kc B (by omega),C.k4.kc B (by omega),B.blk C.k5,C.q5.kc B (by omega),C.tmp.skip hs (fun t v h=>yj.kc B (by omega) h) ho c,?_,?_,?_,C.defers⟩
 ·intro _
  refine⟨r,oD m k v,l,h2,U,fun x Z=>?_,fun j k' R F=>?_,fun F=>?_,fun F=>?_⟩
  ·rcases Z9 Z with Z|rfl
   ·obtain⟨z,O,h9⟩:=h4 x Z
    exact⟨z,O,h9.kc B (by omega)⟩
   exact⟨sh,X,pI.kc d B (by omega)⟩
  ·rw[NF]
   by_cases L:j=i
   ·subst L
    rw[D]at R;cases R
    exact Nl.1
   rw[eG L]at F;exact Nl.2 _ (NF.1 (h5 j k' R F))
  ·refine h6 ?_
   rw[eG (by rintro rfl;cases D)]at F;exact F
  refine h7 ?_;rw[eG (by rintro rfl;cases D)]at F;exact F
 ·intro j R F
  rw[eG (Ne.symm V)];exact n
 exact C.below.trans (((ak.refl (fun g=>g=r) w).grown I (fun k S=>by cases S;exact .inl rfl)).toBelow C.below.size (fun g b=>by omega))
theorem op_0(W:((dL Tryz.f141 4).toArray[0]?).map (fun o=>(o.dst,o.op,o.guard))=some (some 11,Op.makeMap 191 none,none)):jm 0:=by
 intro x X Y Z z y B a w Q U A T;obtain⟨o,O,G,R,S⟩:=lS W;have L:=(mem_ready.1 T).1;have H:0<B.size:=by have:=(acd.1 O).1;omega
 have D:B.getD 0 false=false:=by simp[H]at L⊢;exact L
 have E:=ai w (.map #[] 0);have F:=KC.of_below E
 have I:∀u,u≠11->(a.put o.dst (.map (some w.heap.size))).tmps[u]? =a.tmps[u]? :=fun u V=>by
  rw[G];show(a.tmps.setIfInBounds 11 _)[u]? =_;rw[Array.getElem?_setIfInBounds_ne (Ne.symm V)]
 refine AV (o:=o) O S ?_;unfold Oper.wp
 have J:(execOp a.eval o).run Tryz.prog w= .ok (.value (.map (some w.heap.size))) (w.alloc (.map #[] 0)):=by
  simp only[execOp,R];have:=@run_makeMap Tryz.prog 191 w;simp[this,Result.andThen]
 rw[J,Oper.upon_value];refine⟨?_,(I 1 (by omega)).trans A.t1,(I 2 (by omega)).trans A.t2,(I 3 (by omega)).trans A.t3,(I 4 (by omega)).trans A.t4,(I 5 (by omega)).trans A.t5,F.blk A.k1,A.k2.kc F E.size,A.k4.kc F E.size,F.blk A.k5,A.q5.kc F E.size,?_,?_,?_,A.below.trans (E.mono A.below.size),?_⟩
 ·rw[G]
  show(a.tmps.setIfInBounds 11 _).size=119;simpa using A.size
 ·exact A.tmp.put U (fun t v h=>yj.kc F E.size h) (Lb KI) O G (by rw[A.size];omega) trivial
 ·intro _
  refine⟨w.heap.size,[],?_,A.below.size,aY.made w,by simp,fun j k M C=>?_,fun C=>?_,fun C=>?_⟩
  ·rw[G]
   show(a.tmps.setIfInBounds 11 _)[11]? =_;simp[A.size]
  ·have N:j≠0:=by rintro rfl;cases M
   rw[eG N]at C;have:=A.ord j (.inl (by rw[M];simp)) C;rw[D]at this;cases this
  ·rw[eG (by omega)]at C
   have:=A.ord 136 (.inr (.inl rfl)) C;rw[D]at this;cases this
  rw[eG (by omega)]at C;have:=A.ord 137 (.inr (.inr rfl)) C;rw[D]at this;cases this
 ·intro j M C
  simp[H]
 rw[G];exact A.defers
def qD(i u:Nat):Prop:=(match (dL Tryz.f141 4).toArray[i]? with
 | some o=>o.after.toList.any fun e=>Region.binds .any e&&(match (dL Tryz.f141 4).toArray[e.on]? with|some q=>q.dst==some u|none=>false)
 | none=>false)=true
theorem o7.dep{N:World}{E F:Nat}{J L M:Value}{A:Array Bool}{a:Act}{w:World}(H:o7 N E F J L M A a w){i:Nat}(I:i∈Region.ready .any (dL Tryz.f141 4).toArray A){u:Nat}(h:qD i u):∃v,a.tmps[u]? =some v/\yj w v (ic u):=by
 unfold qD at h
 cases C:(dL Tryz.f141 4).toArray[i]? with
 | none=>rw[C]at h;cases h
 | some o=>
  rw[C]at h;obtain⟨e,G,B⟩:=List.any_eq_true.1 h;rw[acb]at B
  cases D:(dL Tryz.f141 4).toArray[e.on]? with
  | none=>rw[D]at B;cases B.2
  | some q=>
   rw[D]at B;refine H.get I (j:=e.on) (u:=u) (by rw[D];exact congrArg some (eq_of_beq B.2)) ?_;rw[C];refine congrArg some (List.any_eq_true.2 ⟨e,G,?_⟩);rw[B.1,beq_self_eq_true];rfl
def SO(i:Nat)(d:Option Nat)(op:Op):Prop:=((dL Tryz.f141 4).toArray[i]?).map (fun o=>(o.dst,o.op,o.guard))=some (d,op,none)
def TX(i:Nat)(x:Operand)(p:ByteArray->Bool):Prop:=∀{w0:World}{b1 b5:Nat}{v2 v4 v5:Value}{listed:Array Bool}{a:Act}{w:World},o7 w0 b1 b5 v2 v4 v5 listed a w->i∈Region.ready .any (dL Tryz.f141 4).toArray listed->∃f c,a.eval x= .func (Fn.func f) #[] c/\nN w (.func (Fn.func f) #[] c) p
def KP(i:Nat)(x:Operand)(p:Int->Bool):Prop:=∀{w0:World}{b1 b5:Nat}{v2 v4 v5:Value}{listed:Array Bool}{a:Act}{w:World},o7 w0 b1 b5 v2 v4 v5 listed a w->i∈Region.ready .any (dL Tryz.f141 4).toArray listed->∃f c,a.eval x= .func (Fn.func f) #[] c/\iW w (.func (Fn.func f) #[] c) p
section
variable {i:Nat}
theorem TX.t(u:Nat)(p:ByteArray->Bool)(h:qD i u:=by unfold qD;kernel_rfl) (D:ic u= .text p:=by rfl):TX i (.tmp u) p:=fun B C=>by
 obtain⟨v,E,A⟩:=B.dep C h;rw[D]at A;obtain⟨f,c,rfl⟩:=Ni A;exact⟨f,c,tH E,A⟩
theorem TX.e:TX i (.func 194) dM:=fun _ _=>⟨194,#[],rfl,abx _⟩
theorem TX.n:TX i (.func 196) iL:=fun _ _=>⟨196,#[],rfl,XW _⟩
theorem KP.t(u:Nat)(p:Int->Bool)(h:qD i u:=by unfold qD;kernel_rfl) (D:ic u= .kind p:=by rfl):KP i (.tmp u) p:=fun B C=>by
 obtain⟨v,E,A⟩:=B.dep C h;rw[D]at A;obtain⟨f,c,rfl⟩:=GH A;exact⟨f,c,tH E,A⟩
theorem KP.s:KP i (.func 197) kg:=fun _ _=>⟨197,#[],rfl,Yg _⟩
theorem KP.p:KP i (.func 198) iC:=fun _ _=>⟨198,#[],rfl,Vt _⟩
theorem kB(t:Nat){x:Operand}{F:ByteArray->Bool}(S:TX i x F)(U:SO i (some t) (Op.build 197 #[(0,x)]):=by unfold SO;kernel_rfl) (R:ic t= .shape ⟨F,[],none,0⟩:=by rfl) (T:12<=t/\t<=117:=by decide) (M:jZ i=none/\i≠0/\i≠136/\i≠137:=by decide):jm i:=by
 intro z V W X Y Z A a w Q O D E;obtain⟨o,N,J,C,L⟩:=lS U;obtain⟨I,H,B,G⟩:=S D E;refine jT O D E N L J T M (v:=.agg #[.func (Fn.func I) #[] H,.slice none 0 0,.nilFunc,.int .i64 0]) (w':=w) (by simp only[execOp,C,List.map_toArray,List.map_cons,List.map_nil,B];go_simp) (Below.refl _ _) ?_;rw[R];exact⟨_,_,_,_,rfl,G,(by intro i p h;simp at h),rfl⟩
theorem zY(t:Nat){x:Operand}{I:ByteArray->Bool}(Y:TX i x I)(u:Nat)(ps:List (Int->Bool))(h:qD i u:=by unfold qD;kernel_rfl) (X:ic u= .pF ps:=by rfl) (z:SO i (some t) (Op.build 197 #[(0,x),(1,Operand.tmp u)]):=by unfold SO;kernel_rfl) (W:ic t= .shape ⟨I,ps,none,0⟩:=by rfl) (Z:12<=t/\t<=117:=by decide) (T:jZ i=none/\i≠0/\i≠136/\i≠137:=by decide):jm i:=by
 intro l y r q n m C a w Q V D F;obtain⟨o,U,N,G,R⟩:=lS z;obtain⟨M,L,E,J⟩:=Y D F;obtain⟨k,H,B⟩:=D.dep F h;rw[X]at B;obtain⟨A,c,rfl,S⟩:=B;have O:=tH H;refine jT V D F U R N Z T (v:=.agg #[.func (Fn.func M) #[] L,.slice A ps.length c,.nilFunc,.int .i64 0]) (w':=w) (by simp only[execOp,G,List.map_toArray,List.map_cons,List.map_nil,E];go_simp) (Below.refl _ _) ?_;rw[W];exact⟨_,_,_,_,rfl,J,S,rfl⟩
theorem Yd(t:Nat){x y:Operand}{H:ByteArray->Bool}{p:Int->Bool}(W:TX i x H)(X:KP i y p)(Z:SO i (some t) (Op.build 197 #[(0,x),(2,y)]):=by unfold SO;kernel_rfl) (V:ic t= .shape ⟨H,[],some p,0⟩:=by rfl) (Y:12<=t/\t<=117:=by decide) (S:jZ i=none/\i≠0/\i≠136/\i≠137:=by decide):jm i:=by
 intro m z u r q n A a w Q U B F;obtain⟨o,T,O,G,R⟩:=lS Z;obtain⟨N,L,E,I⟩:=W B F;obtain⟨M,J,D,C⟩:=X B F;refine jT U B F T R O Y S (v:=.agg #[.func (Fn.func N) #[] L,.slice none 0 0,.func (Fn.func M) #[] J,.int .i64 0]) (w':=w) (by simp only[execOp,G,List.map_toArray,List.map_cons,List.map_nil,E,D];go_simp) (Below.refl _ _) ?_;rw[V];exact⟨_,_,_,_,rfl,I,(by intro i p h;simp at h),C⟩
theorem kBm(t:Nat){x y:Operand}{H:ByteArray->Bool}{p:Int->Bool}(W:TX i x H)(X:KP i y p)(Z:SO i (some t) (Op.build 197 #[(0,x),(2,y),(3,Operand.const (Value.int IntKind.i64 1))]):=by unfold SO;kernel_rfl) (V:ic t= .shape ⟨H,[],some p,1⟩:=by rfl) (Y:12<=t/\t<=117:=by decide) (S:jZ i=none/\i≠0/\i≠136/\i≠137:=by decide):jm i:=by
 intro m z u r q n A a w Q U B F;obtain⟨o,T,O,G,R⟩:=lS Z;obtain⟨N,L,E,I⟩:=W B F;obtain⟨M,J,D,C⟩:=X B F;refine jT U B F T R O Y S (v:=.agg #[.func (Fn.func N) #[] L,.slice none 0 0,.func (Fn.func M) #[] J,.int .i64 1]) (w':=w) (by simp only[execOp,G,List.map_toArray,List.map_cons,List.map_nil,E,D];go_simp) (Below.refl _ _) ?_;rw[V];exact⟨_,_,_,_,rfl,I,(by intro i p h;simp at h),C⟩
theorem NH(t:Nat){x0:Operand}{E:Int->Bool}(J:KP i x0 E)(U:SO i (some t) (Op.buildSlice 195 1 #[(0,x0)]):=by unfold SO;kernel_rfl) (S:ic t= .pF [E]:=by rfl) (T:12<=t/\t<=117:=by decide) (N:jZ i=none/\i≠0/\i≠136/\i≠137:=by decide):jm i:=by
 intro z V W X Y Z A a w Q R H I;obtain⟨o,O,L,D,M⟩:=lS U;obtain⟨G,F,C,B⟩:=J H I;refine jT R H I O M L T N (v:=.slice (some ⟨w.heap.size,0,none⟩) 1 1) (w':=w.alloc (.cells #[.func (Fn.func G) #[] F] 54)) (by simp only[execOp,D,List.map_toArray,List.map_cons,List.map_nil,C];go_simp) (ai _ _) ?_;rw[S];exact⟨_,_,rfl,J5 w 54 [.func (Fn.func G) #[] F] [E] (.cons B .nil)⟩
theorem Yc(t:Nat){x0 O:Operand}{I p1:Int->Bool}(R:KP i x0 I)(S:KP i O p1)(z:SO i (some t) (Op.buildSlice 195 2 #[(0,x0),(1,O)]):=by unfold SO;kernel_rfl) (Y:ic t= .pF [I,p1]:=by rfl) (Z:12<=t/\t<=117:=by decide) (V:jZ i=none/\i≠0/\i≠136/\i≠137:=by decide):jm i:=by
 intro n y x u r q A a w Q X B G;obtain⟨o,W,T,H,U⟩:=lS z;obtain⟨M,J,E,C⟩:=R B G;obtain⟨N,L,F,D⟩:=S B G;refine jT X B G W U T Z V (v:=.slice (some ⟨w.heap.size,0,none⟩) 2 2) (w':=w.alloc (.cells #[.func (Fn.func M) #[] J,.func (Fn.func N) #[] L] 54)) (by simp only[execOp,H,List.map_toArray,List.map_cons,List.map_nil,E,F];go_simp) (ai _ _) ?_;rw[Y];exact⟨_,_,rfl,J5 w 54 [.func (Fn.func M) #[] J,.func (Fn.func N) #[] L] [I,p1] (.cons C (.cons D .nil))⟩
theorem kF3(t:Nat){x0 U V:Operand}{J p1 L:Int->Bool}(X:KP i x0 J)(Y:KP i U p1)(Z:KP i V L)(m:SO i (some t) (Op.buildSlice 195 3 #[(0,x0),(1,U),(2,V)]):=by unfold SO;kernel_rfl) (q:ic t= .pF [J,p1,L]:=by rfl) (n:12<=t/\t<=117:=by decide) (x:jZ i=none/\i≠0/\i≠136/\i≠137:=by decide):jm i:=by
 intro d l k j g f C a w Q r A B;obtain⟨o,u,z,I,y⟩:=lS m;obtain⟨R,M,F,D⟩:=X A B;obtain⟨S,N,G,E⟩:=Y A B;obtain⟨T,O,H,W⟩:=Z A B;refine jT r A B u y z n x (v:=.slice (some ⟨w.heap.size,0,none⟩) 3 3) (w':=w.alloc (.cells #[.func (Fn.func R) #[] M,.func (Fn.func S) #[] N,.func (Fn.func T) #[] O] 54)) (by simp only[execOp,I,List.map_toArray,List.map_cons,List.map_nil,F,G,H];go_simp) (ai _ _) ?_;rw[q];exact⟨_,_,rfl,J5 w 54 [.func (Fn.func R) #[] M,.func (Fn.func S) #[] N,.func (Fn.func T) #[] O] [J,p1,L] (.cons D (.cons E (.cons W .nil)))⟩
theorem TW(t:Nat)(A:Int)(N:SO i (some t) (Op.buildSlice 28 1 #[(0,Operand.const (Value.int IntKind.i64 A))]):=by unfold SO;kernel_rfl) (L:ic t= .ints [A]:=by rfl) (M:12<=t/\t<=117:=by decide) (H:jZ i=none/\i≠0/\i≠136/\i≠137:=by decide):jm i:=by
 intro V O R S T U B a w Q J D G;obtain⟨o,I,E,C,F⟩:=lS N;refine jT J D G I F E M H (v:=.slice (some ⟨w.heap.size,0,none⟩) 1 1) (w':=w.alloc (.cells #[.int .i64 A] 3)) (by simp only[execOp,C];go_simp) (ai _ _) ?_;rw[L];exact⟨_,_,rfl,JN w 3 [A]⟩
theorem kI2(t:Nat)(A B:Int)(O:SO i (some t) (Op.buildSlice 28 2 #[(0,Operand.const (Value.int IntKind.i64 A)),(1,Operand.const (Value.int IntKind.i64 B))]):=by unfold SO;kernel_rfl) (M:ic t= .ints [A,B]:=by rfl) (N:12<=t/\t<=117:=by decide) (I:jZ i=none/\i≠0/\i≠136/\i≠137:=by decide):jm i:=by
 intro W R S T U V C a w Q L E H;obtain⟨o,J,F,D,G⟩:=lS O;refine jT L E H J G F N I (v:=.slice (some ⟨w.heap.size,0,none⟩) 2 2) (w':=w.alloc (.cells #[.int .i64 A,.int .i64 B] 3)) (by simp only[execOp,D];go_simp) (ai _ _) ?_;rw[M];exact⟨_,_,rfl,JN w 3 [A,B]⟩
theorem kS2(t:Nat)(A B:ByteArray)(O:SO i (some t) (Op.buildSlice 41 2 #[(0,Operand.const (Value.string A)),(1,Operand.const (Value.string B))]):=by unfold SO;kernel_rfl) (M:ic t= .strs [A,B]:=by rfl) (N:12<=t/\t<=117:=by decide) (I:jZ i=none/\i≠0/\i≠136/\i≠137:=by decide):jm i:=by
 intro W R S T U V C a w Q L E H;obtain⟨o,J,F,D,G⟩:=lS O;refine jT L E H J G F N I (v:=.slice (some ⟨w.heap.size,0,none⟩) 2 2) (w':=w.alloc (.cells #[.string A,.string B] 9)) (by simp only[execOp,D];go_simp) (ai _ _) ?_;rw[M];exact⟨_,_,rfl,yV w 9 [A,B]⟩
theorem kL(t:Nat)  (O:SO i (some t) (Op.load 99 (Operand.tmp 1)):=by unfold SO;kernel_rfl) (L:ic t= .text bO:=by rfl) (N:12<=t/\t<=117:=by decide) (H:jZ i=none/\i≠0/\i≠136/\i≠137:=by decide):jm i:=by
 intro W D R T U V A a w Q J B G;obtain⟨o,I,E,C,F⟩:=lS O;have M:=B.t1;have S:w.cell? ⟨D,0,none⟩=some (.func (Fn.func 53) #[] #[]):=B.k1.cell 0;refine jT J B G I F E N H (v:=.func (Fn.func 53) #[] #[]) (w':=w) (by simp only[execOp,C];go_simp) (Below.refl _ _) ?_;rw[L];exact TT w
theorem kM2(t:Nat)  (N:SO i (some t) (Op.move (Operand.tmp 2)):=by unfold SO;kernel_rfl) (J:ic t= .kind (bA [11]):=by rfl) (M:12<=t/\t<=117:=by decide) (G:jZ i=none/\i≠0/\i≠136/\i≠137:=by decide):jm i:=by
 intro V R S O T U A a w Q I B F;obtain⟨o,H,D,C,E⟩:=lS N;have L:=B.t2;refine jT I B F H E D M G (v:=O) (w':=w) (by simp only[execOp,C];go_simp) (Below.refl _ _) ?_;rw[J];exact B.k2
theorem Bn(t:Nat)  (N:SO i (some t) (Op.move (Operand.tmp 3)):=by unfold SO;kernel_rfl) (J:ic t= .kind (aN):=by rfl) (M:12<=t/\t<=117:=by decide) (G:jZ i=none/\i≠0/\i≠136/\i≠137:=by decide):jm i:=by
 intro V O R S T U A a w Q I C F;obtain⟨o,H,D,B,E⟩:=lS N;have L:=C.t3;refine jT I C F H E D M G (v:=.func (Fn.func 190) #[] #[]) (w':=w) (by simp only[execOp,B];go_simp) (Below.refl _ _) ?_;rw[J];exact Yh w
theorem kM4(t:Nat)  (N:SO i (some t) (Op.move (Operand.tmp 4)):=by unfold SO;kernel_rfl) (J:ic t= .kind (eU bU):=by rfl) (M:12<=t/\t<=117:=by decide) (G:jZ i=none/\i≠0/\i≠136/\i≠137:=by decide):jm i:=by
 intro V R S T O U A a w Q I B F;obtain⟨o,H,D,C,E⟩:=lS N;have L:=B.t4;refine jT I B F H E D M G (v:=O) (w':=w) (by simp only[execOp,C];go_simp) (Below.refl _ _) ?_;rw[J];exact B.k4
theorem kO(t u:Nat)(l:List Int)(U:SO i (some t) (Op.call { callee:=Callee.value (Operand.func 189),args:=#[Operand.tmp u],argTypes:=#[28] }):=by unfold SO;kernel_rfl) (h:qD i u:=by unfold qD;kernel_rfl) (R:ic u= .ints l:=by rfl) (O:ic t= .kind (bA l):=by rfl) (I:l.length<=1000000:=by decide) (T:12<=t/\t<=117:=by decide) (J:jZ i=none/\i≠0/\i≠136/\i≠137:=by decide):jm i:=by
 intro y V W Y Z z B a w Q N D F;obtain⟨o,L,G,C,H⟩:=lS U;obtain⟨v,S,E⟩:=D.dep F h;rw[R]at E;obtain⟨A,c,rfl,M⟩:=E;have X:=tH S;refine Gm N D F L H G T J (f:=189) (args:=#[.slice A l.length c]) (by simp only[execOp,C];go_simp) ?_;rw[O];exact TN A l.length c l w M rfl I
theorem kW(t u:Nat)(l:List ByteArray)(U:SO i (some t) (Op.call { callee:=Callee.value (Operand.func 193),args:=#[Operand.tmp u],argTypes:=#[41] }):=by unfold SO;kernel_rfl) (h:qD i u:=by unfold qD;kernel_rfl) (R:ic u= .strs l:=by rfl) (O:ic t= .text (jw l):=by rfl) (I:l.length<=1000000:=by decide) (T:12<=t/\t<=117:=by decide) (J:jZ i=none/\i≠0/\i≠136/\i≠137:=by decide):jm i:=by
 intro y V W Y Z z B a w Q N D F;obtain⟨o,L,G,C,H⟩:=lS U;obtain⟨v,S,E⟩:=D.dep F h;rw[R]at E;obtain⟨A,c,rfl,M⟩:=E;have X:=tH S;refine Gm N D F L H G T J (f:=193) (args:=#[.slice A l.length c]) (by simp only[execOp,C];go_simp) ?_;rw[O];exact Pj A l.length c l w M rfl I
theorem kQ(t u:Nat)(p:Int->Bool)(R:SO i (some t) (Op.call { callee:=Callee.value (Operand.func 191),args:=#[Operand.tmp u],argTypes:=#[54] }):=by unfold SO;kernel_rfl) (h:qD i u:=by unfold qD;kernel_rfl) (M:ic u= .kind p:=by rfl) (L:ic t= .kind (eU p):=by rfl) (O:12<=t/\t<=117:=by decide) (H:jZ i=none/\i≠0/\i≠136/\i≠137:=by decide):jm i:=by
 intro Y S T V W X A a w Q J C E;obtain⟨o,I,F,B,G⟩:=lS R;obtain⟨v,N,D⟩:=C.dep E h;rw[M]at D;have U:=tH N;refine Gm J C E I G F O H (f:=191) (args:=#[v]) (by simp only[execOp,B];go_simp) ?_;rw[L];exact FI v p w D
theorem kN(k:Int)(u:Nat)(O:SO i none (Op.insert 191 (Operand.tmp 11) (Operand.const (Value.int IntKind.i64 k)) (Operand.tmp u)):=by unfold SO;kernel_rfl) (h:qD i u:=by unfold qD;kernel_rfl) (J:jZ i=some k:=by rfl) (F:((dL Tryz.f141 4).toArray[i]?).map (fun o=>o.after.toList.any fun e=>Region.binds .any e&&(e.on==0))=some true:=by kernel_rfl) (D:(jB k).map Tg.shape=some (ic u):=by rfl):jm i:=by
 intro W R S T U V A a w Q M E B;obtain⟨o,L,H,C,I⟩:=lS O;obtain⟨v,N,G⟩:=E.dep B h;exact Z7 M E B L I H C J (tH N) (AJ B F) D G
end
theorem so_0:((dL Tryz.f141 4).toArray[0]?).map (fun o=>(o.dst,o.op,o.guard))=some (some 11,Op.makeMap 191 none,none):=by kernel_rfl
theorem so_40:((dL Tryz.f141 4).toArray[40]?).map (fun o=>(o.dst,o.op,o.guard))=some (some 43,Op.makeFunc (Fn.func 195) #[] #[Operand.tmp 5,Operand.tmp 1],none):=by kernel_rfl
theorem op_40:jm 40:=by
 intro S D E O R N B a w Q J A H;obtain⟨o,I,F,C,G⟩:=lS so_40;have L:=A.t1;have M:=A.t5;exact jT J A H I G F (by decide) (by decide) (v:=.func (Fn.func 195) #[] #[.pointer (some ⟨E,0,none⟩),.pointer (some ⟨D,0,none⟩)]) (w':=w) (by simp only[execOp,C];go_simp) (Below.refl _ _) (Y3 w E D N _ _ _ A.q5 (TT w) A.k5 A.k1)
theorem so_129:((dL Tryz.f141 4).toArray[129]?).map (fun o=>(o.dst,o.op,o.guard))=some (some 112,Op.buildSlice 41 13 #[(0,Operand.const (Value.string { data:=#[111,114] })),(1,Operand.const (Value.string { data:=#[97,110,100] })),(2,Operand.const (Value.string { data:=#[61,61] })),(3,Operand.const (Value.string { data:=#[33,61] })),(4,Operand.const (Value.string { data:=#[60] })),(5,Operand.const (Value.string { data:=#[60,61] })),(6,Operand.const (Value.string { data:=#[62] })),(7,Operand.const (Value.string { data:=#[62,61] })),(8,Operand.const (Value.string { data:=#[43] })),(9,Operand.const (Value.string { data:=#[45] })),(10,Operand.const (Value.string { data:=#[42] })),(11,Operand.const (Value.string { data:=#[47] })),(12,Operand.const (Value.string { data:=#[37] }))],none):=by kernel_rfl
theorem op_129:jm 129:=by
 intro O I J L M N A a w Q H C F;obtain⟨o,G,D,B,E⟩:=lS so_129;refine jT H C F G E D (by decide) (by decide) (v:=.slice (some ⟨w.heap.size,0,none⟩) 13 13) (w':=w.alloc (.cells #[.string ⟨#[111,114]⟩,.string ⟨#[97,110,100]⟩,.string ⟨#[61,61]⟩,.string ⟨#[33,61]⟩,.string ⟨#[60]⟩,.string ⟨#[60,61]⟩,.string ⟨#[62]⟩,.string ⟨#[62,61]⟩,.string ⟨#[43]⟩,.string ⟨#[45]⟩,.string ⟨#[42]⟩,.string ⟨#[47]⟩,.string ⟨#[37]⟩] 9)) (by simp only[execOp,B];go_simp) (ai _ _) ?_;exact⟨_,_,rfl,yV w 9 sj⟩
theorem so_136:((dL Tryz.f141 4).toArray[136]?).map (fun o=>(o.dst,o.op,o.guard))=some (some 118,Op.move (Operand.tmp 11),none):=by kernel_rfl
theorem so_137:((dL Tryz.f141 4).toArray[137]?).map (fun o=>(o.dst,o.op,o.guard))=some (some 0,Op.assign (Operand.tmp 118),none):=by kernel_rfl
theorem op_136:jm 136:=by
 intro l Z z x q n B a w Q X A V;obtain⟨o,I,E,J,U⟩:=lS so_136;have L:B.getD 0 false=true:=AJ V (by kernel_rfl);have W:136<B.size:=by have:=(acd.1 I).1;omega
 obtain⟨r,m,M,N,O,R,S,y,T⟩:=A.sQ L
 have C:∀u,u≠118->(a.put o.dst (.map (some r))).tmps[u]? =a.tmps[u]? :=fun u Y=>by
  rw[E];show(a.tmps.setIfInBounds 118 _)[u]? =_;rw[Array.getElem?_setIfInBounds_ne (Ne.symm Y)]
 refine AV (o:=o) I U ?_;unfold Oper.wp
 have F:(execOp a.eval o).run Tryz.prog w= .ok (.value (.map (some r))) w:=by
  simp only[execOp,J];go_simp
 rw[F,Oper.upon_value];refine⟨?_,(C 1 (by omega)).trans A.t1,(C 2 (by omega)).trans A.t2,(C 3 (by omega)).trans A.t3,(C 4 (by omega)).trans A.t4,(C 5 (by omega)).trans A.t5,A.k1,A.k2,A.k4,A.k5,A.q5,?_,?_,?_,A.below,?_⟩
 ·rw[E]
  show(a.tmps.setIfInBounds 118 _).size=119;simpa using A.size
 ·exact A.tmp.put X (fun t v h=>h) (Lb KI) I E (by rw[A.size];omega) trivial
 ·intro _
  refine⟨r,m,(C 11 (by omega)).trans M,N,O,R,fun j k G D=>?_,fun _=>?_,fun D=>?_⟩
  ·have H:j≠136:=by rintro rfl;cases G
   rw[eG H]at D;exact S j k G D
  ·rw[E]
   show(a.tmps.setIfInBounds 118 _)[118]? =_;simp[A.size]
  rw[eG (by omega)]at D;exact(C 0 (by omega)).trans (T D)
 ·intro j G D
  rw[eG (by omega)];exact L
 rw[E];exact A.defers
theorem op_137:jm 137:=by
 intro g z y q n l B a w Q Y A X;obtain⟨o,O,F,J,W⟩:=lS so_137;have C:B.getD 136 false=true:=AJ X (by kernel_rfl);have L:B.getD 0 false=true:=A.ord 136 (.inr (.inl rfl)) C;obtain⟨r,m,R,S,T,U,V,N,x⟩:=A.sQ L;have M:=N C
 have D:∀u,u≠0->(a.put o.dst (.map (some r))).tmps[u]? =a.tmps[u]? :=fun u Z=>by
  rw[F];show(a.tmps.setIfInBounds 0 _)[u]? =_;rw[Array.getElem?_setIfInBounds_ne (Ne.symm Z)]
 refine AV (o:=o) O W ?_;unfold Oper.wp
 have G:(execOp a.eval o).run Tryz.prog w= .ok (.value (.map (some r))) w:=by
  simp only[execOp,J];go_simp
 rw[G,Oper.upon_value];refine⟨?_,(D 1 (by omega)).trans A.t1,(D 2 (by omega)).trans A.t2,(D 3 (by omega)).trans A.t3,(D 4 (by omega)).trans A.t4,(D 5 (by omega)).trans A.t5,A.k1,A.k2,A.k4,A.k5,A.q5,?_,?_,?_,A.below,?_⟩
 ·rw[F]
  show(a.tmps.setIfInBounds 0 _).size=119;simpa using A.size
 ·exact A.tmp.put Y (fun t v h=>h) (Lb KI) O F (by rw[A.size];omega) trivial
 ·intro _
  refine⟨r,m,(D 11 (by omega)).trans R,S,T,U,fun j k H E=>?_,fun E=>?_,fun _=>?_⟩
  ·have I:j≠137:=by rintro rfl;cases H
   rw[eG I]at E;exact V j k H E
  ·rw[eG (by omega)]at E
   exact(D 118 (by omega)).trans (N E)
  rw[F];show(a.tmps.setIfInBounds 0 _)[0]? =_;simp[A.size]
 ·intro j H E
  rw[eG (by omega)];exact L
 rw[F];exact A.defers
theorem op_all:∀i,i<138->jm i
 | 0,_=>op_0 so_0
 | 1,_=>kB 12 TX.e
 | 2,_=>kN 0 12
 | 3,_=>kI2 13 3 5
 | 4,_=>kO 14 13 _
 | 5,_=>Yd 15 TX.e (KP.t 14 _)
 | 6,_=>kN 2 15
 | 7,_=>kL 16
 | 8,_=>TW 17 4
 | 9,_=>kO 18 17 _
 | 10,_=>kBm 19 (TX.t 16 _) (KP.t 18 _)
 | 11,_=>kN 3 19
 | 12,_=>kL 20
 | 13,_=>TW 21 9
 | 14,_=>kO 22 21 _
 | 15,_=>NH 23 (KP.t 22 _)
 | 16,_=>zY 24 (TX.t 20 _) 23 _
 | 17,_=>kN 4 24
 | 18,_=>kL 25
 | 19,_=>TW 26 6
 | 20,_=>kO 27 26 _
 | 21,_=>kM4 28
 | 22,_=>kM2 29
 | 23,_=>kF3 30 (KP.t 27 _) (KP.t 28 _) (KP.t 29 _)
 | 24,_=>zY 31 (TX.t 25 _) 30 _
 | 25,_=>kN 5 31
 | 26,_=>kI2 32 7 8
 | 27,_=>kO 33 32 _
 | 28,_=>Yd 34 TX.e (KP.t 33 _)
 | 29,_=>kN 6 34
 | 30,_=>kL 35
 | 31,_=>kM4 36
 | 32,_=>NH 37 (KP.t 36 _)
 | 33,_=>zY 38 (TX.t 35 _) 37 _
 | 34,_=>kN 7 38
 | 35,_=>kL 39
 | 36,_=>kM4 40
 | 37,_=>NH 41 (KP.t 40 _)
 | 38,_=>zY 42 (TX.t 39 _) 41 _
 | 39,_=>kN 8 42
 | 40,_=>op_40
 | 41,_=>kB 44 (TX.t 43 _)
 | 42,_=>kN 9 44
 | 43,_=>kB 45 TX.n
 | 44,_=>kN 10 45
 | 45,_=>Yd 46 TX.e KP.s
 | 46,_=>kN 11 46
 | 47,_=>kL 47
 | 48,_=>kM4 48
 | 49,_=>Bn 49
 | 50,_=>Yc 50 (KP.t 48 _) (KP.t 49 _)
 | 51,_=>zY 51 (TX.t 47 _) 50 _
 | 52,_=>kN 12 51
 | 53,_=>Bn 52
 | 54,_=>Yc 53 KP.p (KP.t 52 _)
 | 55,_=>zY 54 TX.e 53 _
 | 56,_=>kN 13 54
 | 57,_=>Bn 55
 | 58,_=>kM2 56
 | 59,_=>kI2 57 11 14
 | 60,_=>kO 58 57 _
 | 61,_=>kQ 59 58 _
 | 62,_=>kF3 60 (KP.t 55 _) (KP.t 56 _) (KP.t 59 _)
 | 63,_=>zY 61 TX.e 60 _
 | 64,_=>kN 14 61
 | 65,_=>Bn 62
 | 66,_=>kM2 63
 | 67,_=>Yc 64 (KP.t 62 _) (KP.t 63 _)
 | 68,_=>zY 65 TX.e 64 _
 | 69,_=>kN 15 65
 | 70,_=>kL 66
 | 71,_=>Bn 67
 | 72,_=>Bn 68
 | 73,_=>kM2 69
 | 74,_=>kF3 70 (KP.t 67 _) (KP.t 68 _) (KP.t 69 _)
 | 75,_=>zY 71 (TX.t 66 _) 70 _
 | 76,_=>kN 16 71
 | 77,_=>Bn 72
 | 78,_=>kQ 73 72 _
 | 79,_=>NH 74 (KP.t 73 _)
 | 80,_=>zY 75 TX.e 74 _
 | 81,_=>kN 17 75
 | 82,_=>Bn 76
 | 83,_=>NH 77 (KP.t 76 _)
 | 84,_=>zY 78 TX.e 77 _
 | 85,_=>kN 18 78
 | 86,_=>kL 79
 | 87,_=>Bn 80
 | 88,_=>Yd 81 (TX.t 79 _) (KP.t 80 _)
 | 89,_=>kN 19 81
 | 90,_=>kL 82
 | 91,_=>kB 83 (TX.t 82 _)
 | 92,_=>kN 20 83
 | 93,_=>TW 84 20
 | 94,_=>kO 85 84 _
 | 95,_=>Bn 86
 | 96,_=>Yc 87 (KP.t 85 _) (KP.t 86 _)
 | 97,_=>zY 88 TX.e 87 _
 | 98,_=>kN 21 88
 | 99,_=>kL 89
 | 100,_=>TW 90 20
 | 101,_=>kO 91 90 _
 | 102,_=>NH 92 (KP.t 91 _)
 | 103,_=>zY 93 (TX.t 89 _) 92 _
 | 104,_=>kN 22 93
 | 105,_=>TW 94 20
 | 106,_=>kO 95 94 _
 | 107,_=>NH 96 (KP.t 95 _)
 | 108,_=>zY 97 TX.e 96 _
 | 109,_=>kN 23 97
 | 110,_=>kB 98 TX.n
 | 111,_=>kN 24 98
 | 112,_=>kS2 99 ⟨#[116,114,117,101]⟩ ⟨#[102,97,108,115,101]⟩
 | 113,_=>kW 100 99 _
 | 114,_=>kB 101 (TX.t 100 _)
 | 115,_=>kN 25 101
 | 116,_=>Bn 102
 | 117,_=>kBm 103 TX.e (KP.t 102 _)
 | 118,_=>kN 26 103
 | 119,_=>kL 104
 | 120,_=>Bn 105
 | 121,_=>Yd 106 (TX.t 104 _) (KP.t 105 _)
 | 122,_=>kN 27 106
 | 123,_=>kS2 107 ⟨#[45]⟩ ⟨#[110,111,116]⟩
 | 124,_=>kW 108 107 _
 | 125,_=>Bn 109
 | 126,_=>NH 110 (KP.t 109 _)
 | 127,_=>zY 111 (TX.t 108 _) 110 _
 | 128,_=>kN 28 111
 | 129,_=>op_129
 | 130,_=>kW 113 112 _
 | 131,_=>Bn 114
 | 132,_=>Bn 115
 | 133,_=>Yc 116 (KP.t 114 _) (KP.t 115 _)
 | 134,_=>zY 117 (TX.t 113 _) 116 _
 | 135,_=>kN 29 117
 | 136,_=>op_136
 | 137,_=>op_137
 | i+138,h=>absurd h (by omega)
theorem Jz{P:Program}{Q:Exit->Act->World->Prop}{J:Nat}{a:Act}{w:World}{D:Array Oper}(l:List Oper)(G:D=l.toArray)(I:Array Bool->Act->World->Prop)(H:P.follows .mixedOrders=true)
 (E:∀(i:Nat) (o:Oper),l.toArray[i]? =some o->∀e∈o.after,e.on<i)
 (F:I (Array.replicate l.toArray.size false) a w.drew)
 (B:∀A a w i,A.size=l.toArray.size->I A a w->i∈Region.ready .any l.toArray A->wpOp P l.toArray (NoPanic Q) i (I (A.setIfInBounds i true)) a w)
 (C:∀A a w,A.size=l.toArray.size->(∀i,i<l.toArray.size->A.getD i true=true)->I A a w->Q .normal a w):(Code.region J D true).wp P Q a w:=by
 subst G;exact OH I H E F B C
theorem XE(n:Nat)(h:30<=n):lT n=none:=by
 unfold lT;split<;>first|omega|rfl
def Yj:Bool:=(List.range 30).all fun n=> !(lT n).isSome || (List.range 138).any fun i=>jZ i==some (n:Int)
theorem ins_chk:Yj=true:=by kernel_rfl
theorem ins_of{k:Int}(h:(jB k).isSome=true):∃i,i<138/\jZ i=some k:=by
 cases k with
 | negSucc n=>cases h
 | ofNat n=>
  have C:(lT n).isSome=true:=h;by_cases F:n<30
  ·have B:=ins_chk
   unfold Yj at B;rw[List.all_eq_true]at B;have A:=B n (by simpa using F);rw[C]at A;simp only[Bool.not_true,Bool.false_or,List.any_eq_true,beq_iff_eq]at A;obtain⟨i,D,E⟩:=A;exact⟨i,by simpa using D,E⟩
  rw[XE n (by omega)]at C;cases C
def Ki(w:World)(r:Nat):Prop:=∃m,aY iU w r m/\(∀x∈m,∃sh,jB x.1=some sh/\pI w x.2 sh)/\∀k,(jB k).isSome=true->(mM m k).isSome=true
theorem U2(w:World):Calls Tryz.prog 141 #[] w fun e w'=> ∃r,e= .returned (.map (some r))/\Ki w' r/\Below w.heap.size w w':=by
 go_in
 go_wp2_with fail
 generalize D:w.alloc (.cells #[.func (Fn.func 53) #[] #[]] 99)=W1
 have E:Below w.heap.size w W1:=by rw[<- D];exact ai _ _
 have R:ah W1 w.heap.size 99 #[.func (Fn.func 53) #[] #[]]:=by rw[<- D];exact ah.new w _ _
 have j:W1.heap.size=w.heap.size+1:=by rw[<- D];simp
 rw[<- j];have n:=JN W1 3 [11];have B:=ai W1 (.cells #[.int .i64 11] 3);clear D j;refine(TN (some ⟨W1.heap.size,0,none⟩) 1 1 [11] _ n rfl (by omega)).mono ?_;rintro e c ⟨v2,rfl,O,M⟩;have uE:Below w.heap.size w c:=(E.trans (B.mono E.size)).trans (M.mono (aca E.size B.size));have x:ah c w.heap.size 99 #[.func (Fn.func 53) #[] #[]]:=R.below ((B.trans (M.mono B.size)).mono (ab9 _)) R.lt;obtain⟨a8,Y,aq⟩:=GH O;subst aq;have b:=kH O;have Ig:=kH uE;have Eh:=kH x;clear E R n B M O uE x;go_wp2_with fail
 refine(FI (.func (Fn.func 192) #[] #[]) bU c (Yf c)).mono ?_;rintro e g ⟨v4,rfl,QS,F⟩;obtain⟨aa,Z,ar⟩:=GH QS;subst ar;have a1:=kH QS;have T:=kH (b.out.below F);have pG:=kH (Ig.out.trans (F.mono Ig.out.size));have iT:=kH (Eh.out.below F Eh.out.lt);clear QS F;go_wp2_with fail
 have l:=yV g 9 Dv;have J:=ai g (.cells #[.string ⟨#[105,110,116]⟩,.string ⟨#[98,111,111,108]⟩] 9);refine(Pj (some ⟨g.heap.size,0,none⟩) 2 2 Dv _ l rfl (by omega)).mono ?_;rintro e I ⟨v5,rfl,Q,y⟩;obtain⟨L,C,au⟩:=Ni Q;subst au;have X:Below g.heap.size g I:=J.trans (y.mono J.size);have a6:=kH Q;have U:=kH (T.out.below X);have V:=kH (a1.out.below X);have G:=kH (pG.out.trans (X.mono pG.out.size));have a7:=kH (iT.out.below X iT.out.lt);clear l J Q y X;go_wp2_with fail
 rename_i K hK
 generalize ja:I.alloc (.cells #[.func (Fn.func L) #[] C] 99)=w5
 have N:Below I.heap.size I w5:=by rw[<- ja];exact ai _ _
 have af:ah w5 I.heap.size 99 #[.func (Fn.func L) #[] C]:=by rw[<- ja];exact ah.new I _ _
 have al:KC w5 w5.drew:=fun _ _ _ _ _=>rfl
 have f:=(KC.of_below N).trans al;have VI:I.heap.size<=w5.drew.heap.size:=N.size;refine Jz (dL Tryz.f141 4) (by kernel_rfl) (o7 w w.heap.size I.heap.size (.func (Fn.func a8) #[] Y) (.func (Fn.func aa) #[] Z) (.func (Fn.func L) #[] C)) (by kernel_rfl) (acyc_of sh_acyc) ?_ ?_ ?_
 ·have S:∀i,(Array.replicate (dL Tryz.f141 4).toArray.size false).getD i false≠true:=by
   intro i h;simp[Array.getD_eq_getD_getElem?,Array.getElem?_replicate]at h;split at h<;>simp at h
  exact⟨rfl,rfl,rfl,rfl,rfl,rfl,f.blk a7.out,U.out.kc f VI,V.out.kc f VI,af.drew,a6.out.kc f VI,fun i o t _ _ u=>absurd u (S i),fun u=>absurd u (S 0),fun i _ u=>absurd u (S i),(G.out.trans (N.mono G.out.size)).drew,rfl⟩
 ·intro A a w' i hs z hi
  obtain⟨-,o,ho,-⟩:=mem_ready.1 hi;have an:=(acd.1 ho).1
  have q:i<138:=by
   have:=Nk;simp only[List.size_toArray]at an;omega
  exact op_all i q _ _ _ _ _ _ A a w' _ hs z hi
 intro A a w' hs H z;have av:(dL Tryz.f141 4).toArray.size=138:=by simp only[List.size_toArray];exact Nk
 have W:∀i,i<138->A.getD i false=true:=by
  intro i hi;have d:=H i (by omega);have h2:i<A.size:=by omega
  simp[h2]at d⊢;exact d
 obtain⟨r,m,d,h2,h3,h4,h5,h6,h7⟩:=z.sQ (W 0 (by omega));have ao:=h7 (W 137 (by omega));have iE:=kH W;have HI:=kH z
 have HM:Hid (Ki w' r):=kH ⟨m,h3,h4,fun k hk=>by
  obtain⟨i,ab,ad⟩:=ins_of hk
  exact h5 i k ad (W i ab)⟩
 clear H W d h2 h3 h4 h5 h6 h7 z;refine hK a w' ?_;go_wp2_with fail
 refine bodyPost_ret (v:=.map (some r)) ?_ HI.out.defers ?_
 ·simp[results,Tryz.results141,go_sem,ao]
 exact⟨r,rfl,HM.out,HI.out.below⟩
section
variable {P:Program}{t:TypeId}{ps rs:Array TypeId}{vr:Bool}
theorem Co(w:World)(d:Nat)(h:P.underlying t=some (.func ps rs vr)):(Op.equalIn (d+1) t Value.nilFunc Value.nilFunc).run P w= .ok true w:=by
 simp[Op.equalIn,run_underlying h]
theorem BA(f:Go.Fn)(A:Array Value)(w:World)(d:Nat)(h:P.underlying t=some (.func ps rs vr)):(Op.equalIn (d+1) t (.func f #[] A) Value.nilFunc).run P w= .ok false w:=by
 simp[Op.equalIn,run_underlying h]
theorem Tc(w:World)(h:P.underlying t=some (.func ps rs vr)):(binOp BinOp.eql t Value.nilFunc Value.nilFunc).run P w= .ok (.bool true) w:=by
 simp only[binOp];simp[Op.equal,Op.maxDepth,Co w 9999 h]
theorem Rl(f:Go.Fn)(A:Array Value)(w:World)(h:P.underlying t=some (.func ps rs vr)):(binOp BinOp.eql t (.func f #[] A) Value.nilFunc).run P w= .ok (.bool false) w:=by
 simp only[binOp];simp[Op.equal,Op.maxDepth,BA f A w 9999 h]
theorem SX(w:World)(h:P.underlying t=some (.func ps rs vr)):(binOp BinOp.neq t Value.nilFunc Value.nilFunc).run P w= .ok (.bool false) w:=by
 simp only[binOp];simp[Op.equal,Op.maxDepth,Co w 9999 h]
theorem Qq(f:Go.Fn)(A:Array Value)(w:World)(h:P.underlying t=some (.func ps rs vr)):(binOp BinOp.neq t (.func f #[] A) Value.nilFunc).run P w= .ok (.bool true) w:=by
 simp only[binOp];simp[Op.equal,Op.maxDepth,BA f A w 9999 h]
end
def jO(sh:uM)(i:Nat)(t:ae):Bool:=
 match sh.list with
 | some p=>p t.kind
 | none=>match sh.kids[i]? with|some p=>p t.kind|none=>false
def dh(sh:uM):Nat->List ae->Bool
 | _,[]=>true
 | i,t::ts=>jO sh i t&&dh sh (i+1) ts
def oP(sh:uM)(n:Nat):Bool:=
 match sh.list with
 | none=>decide (n=sh.kids.length)
 | some _=>decide (sh.most<=(n:Int))
def nD(sh:uM)(t:ae):Bool:=sh.text t.text&&oP sh t.kids.length&&dh sh 0 t.kids
theorem YU(sh:uM)(v:Value)(t:ae)(A:Option Addr)(c:Nat)(w:World)(B:Nat)(hB:B<=w.heap.size)(hv:pI w v sh)(d:aD w B A 0 t.kids)(hn:t.kids.length<=1000000000000)(hl:sh.list=none)(b9:sh.kids.length<=10):
 Calls Tryz.prog 143 #[v,aO t A c] w fun e w'=>e= .returned (.bool (nD sh t))/\Below w.heap.size w w':=by
 obtain⟨tv,Ak,ck,lv,rfl,f,R,E⟩:=hv;obtain⟨ft,ct,e1,a6,H⟩:=f;subst e1;rw[hl]at E;have b4:lv= .nilFunc:=E;subst b4;have D:nD sh t=(sh.text t.text&&decide (t.kids.length=sh.kids.length)&&dh sh 0 t.kids):=by unfold nD oP;rw[hl]
 rw[D];unfold aO;unfold Sw at a6;obtain⟨C, lF⟩:=ag t.kids;obtain⟨n, g⟩:=ag C.length;obtain⟨m, l⟩:=ag sh.kids.length;rw[lF]at d hn⊢;rw[g]at hn⊢;rw[l]at b9⊢;obtain⟨kd, ad⟩:=ag t.kind;obtain⟨x, aq⟩:=ag t.text;obtain⟨a, a8⟩:=ag t.at_;obtain⟨z, ar⟩:=ag t.end_;obtain⟨mo, al⟩:=ag sh.most;obtain⟨bt, Y⟩:=ag (sh.text x);rw[ad,aq,a8,ar,al,Y];have qC:=kH H;have au:=kH Y;have aw:=kH R;have HK:=kH d;have HN:=kH g;have av:=kH l;have HL:=kH hl;have HB:=kH hB;clear H Y R d g l hl D lF ad aq a8 ar al E hB;have b6:∀w':World,(binOp BinOp.eql 54 .nilFunc .nilFunc).run Tryz.prog w'= .ok (.bool true) w':=fun w'=>Tc w' Tryz.underlying54
 have b7:∀w':World,(binOp BinOp.neq 54 .nilFunc .nilFunc).run Tryz.prog w'= .ok (.bool false) w':=fun w'=>SX w' Tryz.underlying54
 go_in
 go_wp2_with fail
 generalize L:w.alloc (.cells #[.func (Fn.func ft) #[] ct,.slice Ak m ck,.nilFunc,.int .i64 mo] 197)=W1
 have W:Below w.heap.size w W1:=by rw[<- L];exact ai _ _
 have T:ah W1 w.heap.size 197 #[.func (Fn.func ft) #[] ct,.slice Ak m ck,.nilFunc,.int .i64 mo]:=by rw[<- L];exact ah.new w _ _
 have an:W1.heap.size=w.heap.size+1:=by rw[<- L];simp
 rw[<- an];generalize V:W1.alloc (.cells #[.int .i64 kd,.string x,.int .i64 a,.int .i64 z,.slice A n c] 24)=w2
 have X:Below W1.heap.size W1 w2:=by rw[<- V];exact ai _ _
 have qX:ah w2 W1.heap.size 24 #[.int .i64 kd,.string x,.int .i64 a,.int .i64 z,.slice A n c]:=by rw[<- V];exact ah.new W1 _ _
 have U:=T.below X T.lt;have uE:=W.trans (X.mono W.size);have Z:=qC.out x w2 (KC.of_below uE) uE.size;rw[au.out]at Z;have tN:=kH Z;have Ig:=kH uE;have b8:w.heap.size<W1.heap.size:=by omega
 clear L V W T an X uE Z;refine tN.out.mono ?_;rintro e w3 ⟨rfl,M⟩;have S:=U.below M U.lt;have kX:=qX.below M qX.lt;have Re:=Ig.out.trans (M.mono Ig.out.size);have p0:=S.cell 0;have p1:=S.cell 1;have p2:=S.cell 2;have p3:=S.cell 3;have q4:=kX.cell 4;have b1:=S.lt;have bh:=kX.lt;have iJ:=kH S;have kE:=kH kX;have O:=kH Re;clear S kX Re U qX M;cases bt
 ·go_wp2_with fail
  go_ret
  exact⟨bE (by simp),O.out⟩
 by_cases j:n=m
 case neg=>
  have b5:((n:Int) !=(m:Int))=true:=by simp;omega
  have sJ:=kH j;clear j;go_wp2_with fail
  go_ret
  exact⟨bE (by rw[decide_eq_false sJ.out];simp),O.out⟩
 subst j;have b5:((n:Int) !=(n:Int))=false:=by simp
 go_wp2_with fail
 go_loopg [44] n (fun gk ba wr=> ∃k:Nat,k+gk=n/\ba= .int .i64 (k:Int)/\dh sh 0 C=dh sh k (C.drop k)/\Below w3.heap.size w3 wr)
 case atStart=>exact⟨0,by omega,rfl,rfl,Below.refl _ _⟩
 obtain⟨k,d,rfl,Q,N⟩:=hrel;have Kl:=kH Q;have mF:=kH N;have bl:=N.size;have J:=iJ.out.below N b1;have p1:wr.cell? ⟨w.heap.size,1,none⟩=some (.slice Ak n ck):=J.cell 1;have p2:wr.cell? ⟨w.heap.size,2,none⟩=some .nilFunc:=J.cell 2;have b2:=J.lt;have HI:=kH d;have bd:k<=n:=by omega
 clear Q N J d;by_cases q:k<n
 ·have b3:(k:Int)<(n:Int):=by omega
  obtain⟨u,hu⟩:∃u,C[k]? =some u:=⟨_,ace (by rw[HN.out];exact q)⟩
  obtain⟨vals,⟨b,I,hA,bc,G⟩,hT⟩:=HK.out.get k u hu;obtain⟨A',c',iY,-⟩:=hT.five;subst hA;subst iY;have aE:b<w.heap.size:=by have:=HB.out;omega
  have MW:b<w3.heap.size:=by omega
  have bb:b<wr.heap.size:=by omega
  have tr:∀o v',w.cell? ⟨b,o,none⟩=some v'->wr.cell? ⟨b,o,none⟩=some v':=fun o v' h=>(mF.out.cell (p:=⟨b,o,none⟩) MW).trans ((O.out.cell (p:=⟨b,o,none⟩) aE).trans h)
  have t0:wr.cell? ⟨b,I+k*5,none⟩=some (.int .i64 u.kind):=tr _ _ (by simpa using G 0 _ rfl);have t1:wr.cell? ⟨b,I+k*5+1,none⟩=some (.string u.text):=tr _ _ (by simpa using G 1 _ rfl);have t2:wr.cell? ⟨b,I+k*5+2,none⟩=some (.int .i64 u.at_):=tr _ _ (by simpa using G 2 _ rfl);have t3:wr.cell? ⟨b,I+k*5+3,none⟩=some (.int .i64 u.end_):=tr _ _ (by simpa using G 3 _ rfl);have t4:wr.cell? ⟨b,I+k*5+4,none⟩=some (.slice A' u.kids.length c'):=tr _ _ (by simpa using G 4 _ rfl);obtain⟨p,hp⟩:∃p,sh.kids[k]? =some p:=⟨_,ace (by rw[av.out];exact q)⟩
  obtain⟨b',a7,v',ay,y,sF⟩:=aw.out k p hp;obtain⟨fn,ax,e1,r,ze⟩:=sF;subst e1;subst ay;have JS:KC w wr:=(KC.of_below O.out).trans (KC.of_below mF.out);have QC:w.heap.size<=wr.heap.size:=by have:=O.out.size;omega
  have hv:wr.cell? ⟨b',a7+k,none⟩=some (.func (Fn.func fn) #[] ax):=JS.cell y;have az:b'<wr.heap.size:=JS.lt y;have Lv:=ai wr (.cells #[.int .i64 u.kind,.string u.text,.int .i64 u.at_,.int .i64 u.end_,.slice A' u.kids.length c'] 24);have zQ:=ze u.kind _ (JS.trans (KC.of_below Lv)) (aca QC Lv.size)
  have F:dh sh k (C.drop k)=(p u.kind&&dh sh (k+1) (C.drop (k+1))):=by
   have hd:C.drop k=u::C.drop (k+1):=by
    have af:k<C.length:=by rw[HN.out];exact q
    rw[List.drop_eq_getElem_cons af];rw[ace af]at hu;injection hu with hu
    rw[hu]
   rw[hd];simp only[dh,jO];rw[HL.out,hp]
  obtain⟨bk, ab⟩:=ag (p u.kind);rw[ab]at zQ F;have Sq:=kH zQ;have AQ:=kH F;have Sv:=kH Lv;unfold Sw at r;have bj:IntKind.i64.wrap ((k:Int)+1)=(k:Int)+1:=IntWalk.i64_in _ (by omega);obtain⟨un, ao⟩:=ag u.kids.length;rw[ao]at t4 Sq Sv;clear G hT tr ze zQ F Lv JS y hu hp ab ao QC;go_wp2_with fail
  refine Sq.out.mono ?_;rintro e w5 ⟨rfl,aa⟩;have kF:=kH (mF.out.trans ((Sv.out.trans (aa.mono Sv.out.size)).mono mF.out.size));clear aa;cases bk
  ·go_wp2_with fail
   go_ret
   have a1:dh sh 0 C=false:=by rw[Kl.out,AQ.out];simp
   exact⟨bE (by simp[a1]),O.out.trans (kF.out.mono O.out.size)⟩
  go_wp2_with fail
  go_roundg (gk - 1)
  case measure=>have:=HI.out;omega
  exact⟨k+1,by have:=HI.out;omega,by simp,by rw[Kl.out,AQ.out];simp,kF.out⟩
 have b0:k=n:=by omega
 have D:dh sh 0 C=true:=by rw[Kl.out,b0,<- HN.out,List.drop_length];rfl
 have bG:=kH D;clear D;go_wp2_with fail
 go_ret
 exact⟨bE (by simp[bG.out]),O.out.trans (mF.out.mono O.out.size)⟩
theorem YV(sh:uM)(v:Value)(t:ae)(A:Option Addr)(c:Nat)(w:World)(B:Nat)(hB:B<=w.heap.size)(hv:pI w v sh)(g:aD w B A 0 t.kids)(hn:t.kids.length<=1000000000000)(p:Int->Bool)(hl:sh.list=some p):
 Calls Tryz.prog 143 #[v,aO t A c] w fun e w'=>e= .returned (.bool (nD sh t))/\Below w.heap.size w w':=by
 obtain⟨tv,Ak,ck,lv,rfl,l,a7,E⟩:=hv;obtain⟨ft,ct,e1,a6,H⟩:=l;subst e1;rw[hl]at E;obtain⟨fl,cl,e1,r,Yx⟩:=(show iW w lv p from E)
 subst e1;have D:nD sh t=(sh.text t.text&&decide (sh.most<=(t.kids.length:Int))&&dh sh 0 t.kids):=by unfold nD oP;rw[hl]
 rw[D];unfold aO;unfold Sw at a6 r;obtain⟨C, lF⟩:=ag t.kids;obtain⟨n, q⟩:=ag C.length;obtain⟨m, an⟩:=ag sh.kids.length;rw[lF]at g hn⊢;rw[q]at hn⊢;rw[an];obtain⟨kd, ad⟩:=ag t.kind;obtain⟨x, au⟩:=ag t.text;obtain⟨a, a8⟩:=ag t.at_;obtain⟨z, av⟩:=ag t.end_;obtain⟨j, ao⟩:=ag sh.most;have J:=kH Yx;obtain⟨bt, Z⟩:=ag (sh.text x);rw[ad,au,a8,av,ao,Z];have qC:=kH H;have aw:=kH Z;have HK:=kH g;have HN:=kH q;have HL:=kH hl;have HB:=kH hB;clear H Yx Z a7 g q an hl D lF ad au a8 av ao E hB;have b2:∀w':World,(binOp BinOp.eql 54 (.func (Fn.func fl) #[] cl) .nilFunc).run Tryz.prog w'= .ok (.bool false) w':=fun w'=>Rl _ _ w' Tryz.underlying54
 have b3:∀w':World,(binOp BinOp.neq 54 (.func (Fn.func fl) #[] cl) .nilFunc).run Tryz.prog w'= .ok (.bool true) w':=fun w'=>Qq _ _ w' Tryz.underlying54
 go_in
 go_wp2_with fail
 generalize M:w.alloc (.cells #[.func (Fn.func ft) #[] ct,.slice Ak m ck,.func (Fn.func fl) #[] cl,.int .i64 j] 197)=W1
 have X:Below w.heap.size w W1:=by rw[<- M];exact ai _ _
 have U:ah W1 w.heap.size 197 #[.func (Fn.func ft) #[] ct,.slice Ak m ck,.func (Fn.func fl) #[] cl,.int .i64 j]:=by rw[<- M];exact ah.new w _ _
 have aq:W1.heap.size=w.heap.size+1:=by rw[<- M];simp
 rw[<- aq];generalize W:W1.alloc (.cells #[.int .i64 kd,.string x,.int .i64 a,.int .i64 z,.slice A n c] 24)=w2
 have Y:Below W1.heap.size W1 w2:=by rw[<- W];exact ai _ _
 have qX:ah w2 W1.heap.size 24 #[.int .i64 kd,.string x,.int .i64 a,.int .i64 z,.slice A n c]:=by rw[<- W];exact ah.new W1 _ _
 have V:=U.below Y U.lt;have uE:=X.trans (Y.mono X.size);have y:=qC.out x w2 (KC.of_below uE) uE.size;rw[aw.out]at y;have tN:=kH y;have Ig:=kH uE;have b4:w.heap.size<W1.heap.size:=by omega
 clear M W X U aq Y uE y;refine tN.out.mono ?_;rintro e w3 ⟨rfl,N⟩;have T:=V.below N V.lt;have kX:=qX.below N qX.lt;have Re:=Ig.out.trans (N.mono Ig.out.size);have p0:=T.cell 0;have p1:=T.cell 1;have p2:=T.cell 2;have p3:=T.cell 3;have q4:=kX.cell 4;have az:=T.lt;have b9:=kX.lt;have iJ:=kH T;have kE:=kH kX;have R:=kH Re;clear T kX Re V qX N;cases bt
 ·go_wp2_with fail
  go_ret
  exact⟨bE (by simp),R.out⟩
 by_cases Q:j<=(n:Int)
 case neg=>
  have b1:decide ((n:Int)<j)=true:=decide_eq_true (by omega);have sJ:=kH Q;clear Q;go_wp2_with fail
  go_ret
  exact⟨bE (by have h:=sJ.out;rw[decide_eq_false (p:=j<=(n:Int)) (by omega)];simp),R.out⟩
 have b1:decide ((n:Int)<j)=false:=decide_eq_false (by omega);have sJ:=kH Q;clear Q;go_wp2_with fail
 go_loopg [44] n (fun gk b5 wr=> ∃k:Nat,k+gk=n/\b5= .int .i64 (k:Int)/\dh sh 0 C=dh sh k (C.drop k)/\Below w3.heap.size w3 wr)
 case atStart=>exact⟨0,by omega,rfl,rfl,Below.refl _ _⟩
 obtain⟨k,g,rfl,S,O⟩:=hrel;have Kl:=kH S;have mF:=kH O;have bb:=O.size;have L:=iJ.out.below O az;have p1:wr.cell? ⟨w.heap.size,1,none⟩=some (.slice Ak m ck):=L.cell 1;have p2:wr.cell? ⟨w.heap.size,2,none⟩=some (.func (Fn.func fl) #[] cl):=L.cell 2;have aE:=L.lt;have HI:=kH g;have b8:k<=n:=by omega
 clear S O L g;by_cases al:k<n
 ·have b0:(k:Int)<(n:Int):=by omega
  obtain⟨u,f⟩:∃u,C[k]? =some u:=⟨_,ace (by rw[HN.out];exact al)⟩
  obtain⟨vals,⟨b,I,hA,b7,G⟩,hT⟩:=HK.out.get k u f;obtain⟨A',c',iY,-⟩:=hT.five;subst hA;subst iY;have ax:b<w.heap.size:=by have:=HB.out;omega
  have MW:b<w3.heap.size:=by omega
  have b6:b<wr.heap.size:=by omega
  have d:∀o v',w.cell? ⟨b,o,none⟩=some v'->wr.cell? ⟨b,o,none⟩=some v':=fun o v' h=>(mF.out.cell (p:=⟨b,o,none⟩) MW).trans ((R.out.cell (p:=⟨b,o,none⟩) ax).trans h)
  have t0:wr.cell? ⟨b,I+k*5,none⟩=some (.int .i64 u.kind):=d _ _ (by simpa using G 0 _ rfl);have t1:wr.cell? ⟨b,I+k*5+1,none⟩=some (.string u.text):=d _ _ (by simpa using G 1 _ rfl);have t2:wr.cell? ⟨b,I+k*5+2,none⟩=some (.int .i64 u.at_):=d _ _ (by simpa using G 2 _ rfl);have t3:wr.cell? ⟨b,I+k*5+3,none⟩=some (.int .i64 u.end_):=d _ _ (by simpa using G 3 _ rfl);have t4:wr.cell? ⟨b,I+k*5+4,none⟩=some (.slice A' u.kids.length c'):=d _ _ (by simpa using G 4 _ rfl);have JS:KC w wr:=(KC.of_below R.out).trans (KC.of_below mF.out);have QC:w.heap.size<=wr.heap.size:=by have:=R.out.size;omega
  have Lv:=ai wr (.cells #[.int .i64 u.kind,.string u.text,.int .i64 u.at_,.int .i64 u.end_,.slice A' u.kids.length c'] 24);have zQ:=J.out u.kind _ (JS.trans (KC.of_below Lv)) (aca QC Lv.size)
  have F:dh sh k (C.drop k)=(p u.kind&&dh sh (k+1) (C.drop (k+1))):=by
   have hd:C.drop k=u::C.drop (k+1):=by
    have af:k<C.length:=by rw[HN.out];exact al
    rw[List.drop_eq_getElem_cons af];rw[ace af]at f;injection f with f
    rw[f]
   rw[hd];simp only[dh,jO];rw[HL.out]
  obtain⟨bk, ab⟩:=ag (p u.kind);rw[ab]at zQ F;have Sq:=kH zQ;have AQ:=kH F;have Sv:=kH Lv;have ba:IntKind.i64.wrap ((k:Int)+1)=(k:Int)+1:=IntWalk.i64_in _ (by omega);obtain⟨un, ar⟩:=ag u.kids.length;rw[ar]at t4 Sq Sv;clear G hT d zQ F Lv JS f ab ar QC;go_wp2_with fail
  refine Sq.out.mono ?_;rintro e w5 ⟨rfl,aa⟩;have kF:=kH (mF.out.trans ((Sv.out.trans (aa.mono Sv.out.size)).mono mF.out.size));clear aa;cases bk
  ·go_wp2_with fail
   go_ret
   have a1:dh sh 0 C=false:=by rw[Kl.out,AQ.out];simp
   exact⟨bE (by simp[a1]),R.out.trans (kF.out.mono R.out.size)⟩
  go_wp2_with fail
  go_roundg (gk - 1)
  case measure=>have:=HI.out;omega
  exact⟨k+1,by have:=HI.out;omega,by simp,by rw[Kl.out,AQ.out];simp,kF.out⟩
 have ay:k=n:=by omega
 have D:dh sh 0 C=true:=by rw[Kl.out,ay,<- HN.out,List.drop_length];rfl
 have bG:=kH D;clear D;go_wp2_with fail
 go_ret
 exact⟨bE (by have h:=sJ.out;rw[decide_eq_true (p:=j<=(n:Int)) (by omega),bG.out];simp),R.out.trans (mF.out.mono R.out.size)⟩
theorem abt(sh:uM)(v:Value)(t:ae)(A:Option Addr)(c:Nat)(w:World)(B:Nat)(D:B<=w.heap.size)(H:pI w v sh)(E:aD w B A 0 t.kids)(G:t.kids.length<=1000000000000)(C:sh.kids.length<=10):
 Calls Tryz.prog 143 #[v,aO t A c] w fun e w'=>e= .returned (.bool (nD sh t))/\Below w.heap.size w w':=by
 cases F:sh.list with
 | none=>exact YU sh v t A c w B D H E G F C
 | some p=>exact YV sh v t A c w B D H E G p F
open Go.Shelf
attribute [local go_sem] Oper.semAt_some
def Cy(t:ae):Bool:=match t.kids with|k::_=>ek k.text| []=>false
def dJ(t:ae):Bool:=match jB t.kind with|none=>false|some sh=>nD sh t&&(if t.kind=4 then Cy t else true)
def eX(t:ae):Bool:=(aM t).all dJ
def dC(t:ae):Bool:=decide (t.kind=2)&&eX t
theorem Pv(y:ByteArray)(l:Array UInt8):(y.toList==l.toList)=decide (y=⟨l⟩):=by
 rw[ByteArray.toList_eq];obtain⟨d⟩:=y;rw[Bool.eq_iff_iff];simp
theorem OV(y:ByteArray):ek y=(y.toList==[105,110,116] || y.toList==[98,111,111,108]):=by
 unfold ek;rw[<- Pv,<- Pv]
theorem UI(w:World):(zeroValue 197).run Tryz.prog w= .ok (.agg #[.nilFunc,.slice none 0 0,.nilFunc,.int .i64 0]) w:=by go_simp
theorem U4{k:Int}{sh:uM}(h:jB k=some sh):sh.kids.length<=10:=by
 cases k with
 | negSucc n=>cases h
 | ofNat n=>
  have A:lT n=some sh:=h;unfold lT at A;split at A<;>first|(cases A;done)|(cases A;simp;done)
theorem U3(t:ae)(A:Option Addr)(c:Nat)(w:World)(hm:aB t<=1000000000)(hk:aD w w.heap.size A 0 t.kids):
 Calls Tryz.prog 76 #[aO t A c] w fun e w'=>e= .returned (.bool (eX t))/\Below w.heap.size w w':=by
 refine(callsIn_wide (n:=6)).1 ?_;have y9:=fun w'=>Nv t A c w'
 unfold aO at y9⊢;refine callsIn_of_wp_marks Tryz.func76 rfl trivial ?_ rfl;simp only[Tryz.ntmps76,List.size_toArray,aco,List.length_nil,Nat.reduceAdd,Nat.reduceSub,Array.replicate_succ,Array.replicate_zero,List.push_toArray,List.append_toArray,List.nil_append,List.cons_append];have vw:=ah.new w 24 #[.int .i64 t.kind,.string t.text,.int .i64 t.at_,.int .i64 t.end_,.slice A t.kids.length c];have bh:=ai w (.cells #[.int .i64 t.kind,.string t.text,.int .i64 t.at_,.int .i64 t.end_,.slice A t.kids.length c] 24)
 have Ua:=(U2 (w.alloc (.cells #[.int .i64 t.kind,.string t.text,.int .i64 t.at_,.int .i64 t.end_,.slice A t.kids.length c] 24))).mono (R':=fun e B=> ∃r,e= .returned (.map (some r))/\Ki B r/\Below w.heap.size w B/\w.heap.size<B.heap.size /\
  B.cell? ⟨w.heap.size,0,none⟩=some (.int .i64 t.kind)/\B.cell? ⟨w.heap.size,1,none⟩=some (.string t.text)/\B.cell? ⟨w.heap.size,2,none⟩=some (.int .i64 t.at_)/\B.cell? ⟨w.heap.size,3,none⟩=some (.int .i64 t.end_)/\B.cell? ⟨w.heap.size,4,none⟩=some (.slice A t.kids.length c))
  (fun e B ⟨r,H,Z,O⟩=>by
   have L:=vw.below O vw.lt
   exact⟨r,H,Z,bh.trans (O.mono (by simp)),L.lt,L.cell 0,L.cell 1,L.cell 2,L.cell 3,L.cell 4⟩)
 clear vw bh;gi_wp2_with (refine⟨trivial,?_⟩;gi_at_call 141;refine(callsIn_wide.2 Ua).mono ?_;clear Ua;rintro e B ⟨r,rfl,bt,b0,bZ,c0,c1,c2,c3,c4⟩)
 refine⟨trivial,?_⟩;gi_at_call 142
 refine(callsIn_wide.2 (y9 _)).mono ?_;rintro e w' ⟨rfl,rfl⟩;gi_wp2
 have al:ah (B.alloc (.cells #[.map (some r)] 191)) B.heap.size 191 #[.map (some r)]:=ah.new B _ _;generalize ay:B.alloc (.cells #[.map (some r)] 191)=W2 at al⊢
 have bj:Below B.heap.size B W2:=by rw[<- ay];exact ai _ _
 have b9:W2.heap.size=B.heap.size+1:=by rw[<- ay];simp
 have an:ah (W2.alloc (.cells #[.bool true] 4)) (B.heap.size+1) 4 #[.bool true]:=by rw[<- b9];exact ah.new W2 _ _
 generalize az:W2.alloc (.cells #[.bool true] 4)=W3 at an⊢
 have b1:Below W2.heap.size W2 W3:=by rw[<- az];exact ai _ _
 have br:W3.heap.size=B.heap.size+2:=by rw[<- az];simp[b9]
 have DZ:ah (W3.alloc (.cells #[.int .i64 t.kind,.string t.text,.int .i64 t.at_,.int .i64 t.end_,.slice A t.kids.length c] 24)) (B.heap.size+1+1) 24 #[.int .i64 t.kind,.string t.text,.int .i64 t.at_,.int .i64 t.end_,.slice A t.kids.length c]:=by rw[show B.heap.size+1+1=W3.heap.size by omega];exact ah.new W3 _ _
 generalize iV:W3.alloc (.cells #[.int .i64 t.kind,.string t.text,.int .i64 t.at_,.int .i64 t.end_,.slice A t.kids.length c] 24)=W4 at DZ⊢
 have aq:Below W3.heap.size W3 W4:=by rw[<- iV];exact ai _ _
 have cd:W4.heap.size=B.heap.size+3:=by rw[<- iV];simp[br]
 have aw:=(al.below b1 al.lt).below aq (by omega);have ax:=an.below aq an.lt;have gB:Below B.heap.size B W4:=(bj.trans (b1.mono (by omega))).trans (aq.mono (by omega));have b4:=aD.below (b0.trans (gB.mono (by omega))) (ab9 _) _ _ _ hk;clear ay az iV bj b1 aq b9 br al an hk y9 c0 c1 c2 c3 c4;have H:1<=6:=by omega
 refine wpIn_rangeFunc_ownH rfl H (gf:=199) (lb:=#[.pointer (some ⟨B.heap.size+1+1,0,none⟩)]) rfl trivial (enters_of Tryz.func199 (by kernel_rfl) rfl)
  (IX Fence.wide rfl (6 - 1) trivial trivial rfl (B.heap.size+1+1) w.heap.size (B.heap.size+3) 1000000000 (by omega) (ab9 _) W4 W4 t A c hm b4 (fK.refl _ _ _) (by omega) DZ) fK.trans (fun W l o o' _ h hc _=>fK.putObj o' h hc) (Below.refl _ _) (fun _=>rfl)
  (fun V W=>(ah W B.heap.size 191 #[.map (some r)]/\ah W (B.heap.size+1) 4 #[.bool (V.all fun x=>dJ x.t)])/\(Below B.heap.size B W/\Below w.heap.size W4 W))
  (fun _ _ _=>False)
  (OwnFrom.and (OwnFrom.and (yQ _ _ _ _) (yQ _ _ _ _)) (OwnFrom.and (ownFrom_below (ab9 _) (by omega)) (ownFrom_below (by omega) (by omega))))
  (fun _ _ _ _ _ hs _ _=>hs)
  ⟨⟨aw,ax⟩,gB,Below.refl _ _⟩
  (fun x a' W=> ∃T,B.heap.size+3<=T/\ah W T 24 #[.int .i64 x.t.kind,.string x.t.text,.int .i64 x.t.at_,.int .i64 x.t.end_,.slice x.A x.t.kids.length x.c] /\
   a'= { tmps:=#[.agg #[.int .i64 t.kind,.string t.text,.int .i64 t.at_,.int .i64 t.end_,.slice A t.kids.length c],.pointer (some ⟨w.heap.size,0,none⟩),.bool false,.pointer (some ⟨B.heap.size,0,none⟩),.pointer (some ⟨B.heap.size+1,0,none⟩),.pointer (some ⟨T,0,none⟩),undef,undef,.map (some r),.agg #[.int .i64 t.kind,.string t.text,.int .i64 t.at_,.int .i64 t.end_,.slice A t.kids.length c],
    .func (.func 199) #[] #[.pointer (some ⟨B.heap.size+1+1,0,none⟩)],aO x.t x.A x.c,undef,undef,undef,undef,undef,undef,undef,undef,undef,undef,undef,undef,undef,undef,undef,undef,undef,undef,undef,undef,undef,undef,undef,undef,undef,undef,undef,undef,undef,undef,undef,undef,undef,undef,undef,undef,undef],defers:=[] })
  (fun x a' s X Y c9 hs hg hr=>by
   obtain⟨T,Z,O,L⟩:=hs
   exact⟨T,Z,yQ (β:=Unit) W4.heap.size T _ (fun _=> #[.int .i64 x.t.kind,.string x.t.text,.int .i64 x.t.at_,.int .i64 x.t.end_,.slice x.A x.t.kids.length x.c]) () X Y c9 O hg hr,L⟩) ?assign ?body ?done ?stop
 case assign=>
  rintro l V x W K ⟨⟨M,G⟩,E,I⟩ hK;unfold aO at hK⊢;gi_wp2
  have cf:=I.size;exact hK _ _ ((KeepsOthers.alloc _ _).from _) (fK.of_below (ai _ _) rfl) ⟨⟨M.alloc _,G.alloc _⟩,E.trans ((ai _ _).mono E.size),I.trans ((ai _ _).mono (by omega))⟩ ⟨W.heap.size,by omega,ah.new W _ _,rfl⟩
 case body=>
  rintro l V x a' W hl ⟨r0,cc⟩ ⟨⟨M,G⟩,E,I⟩ ⟨T,ca,j,rfl⟩ cb;have U:=x.kids;obtain⟨S, VC⟩:=ag x.t.kind;obtain⟨xt, ad⟩:=ag x.t.text;obtain⟨xa, ab⟩:=ag x.t.at_;obtain⟨xz, af⟩:=ag x.t.end_;obtain⟨xn, VB⟩:=ag x.t.kids.length;unfold aO;rw[VC,ad,ab,af,VB]at j⊢;obtain⟨m,k,bn,bo⟩:=bt;have bp:=k.below E k.lt;have N:=wG (P:=Tryz.prog) (KK:=iU) (t:=191) (kt:=3) (et:=197) Tryz.underlying191 Tryz.underlying3 UI bp S;have d0:=j.cell 0;have d1:=j.cell 1;have d2:=j.cell 2;have d3:=j.cell 3;have d4:=j.cell 4;have dl:=j.lt;have o0:=G.cell 0;have of:=G.frozen 0;have ol:=G.lt;have m0:=M.cell 0;have ml:=M.lt;obtain⟨pb, b7⟩:=ag ((V.all fun x=>dJ x.t));rw[b7]at o0
  have a6:∀W' b,ak (fun g=>g=B.heap.size+1) W W'->ah W' (B.heap.size+1) 4 #[.bool b]->b=(pb&&dJ x.t) ->
   KeepsFrom W4.heap.size W W'/\fK w.heap.size (B.heap.size+3) W W'/\(ah W' B.heap.size 191 #[.map (some r)]/\ah W' (B.heap.size+1) 4 #[.bool ((V++[x]).all fun x=>dJ x.t)])/\Below B.heap.size B W'/\Below w.heap.size W4 W':=fun W' b H Z O=>by
   refine⟨⟨H.size,fun g o hg ho _=>(H.block g (acd.1 ho).1 (by omega)).trans ho⟩,⟨H.size,fun g o hg ho _=>(H.block g (acd.1 ho).1 (by omega)).trans ho⟩,⟨M.since H (by omega),?_⟩,E.trans (H.toBelow E.size (by omega)),I.trans (H.toBelow (aca (by omega) I.size) (by omega))⟩;rw[O]at Z;simpa [b7] using Z
  have z:Hid (∀X u,ak (fun g=>g=B.heap.size+1) W X->ak (fun g=>g=B.heap.size+1) W (X.setCell ⟨B.heap.size+1,0,none⟩ u)):=kH (fun X u h=>h.setCell (.inl rfl) u);have M8:=kH (And.intro E I);have bT:=kH a6;have d:=kH G
  have Uy:Hid (mM m S=none->dJ x.t=false):=kH (fun hl=>by
   unfold dJ;rw[VC]
   cases Q:jB S with
   | none=>rfl
   | some sh=>
    have:=bo S (by rw[Q];rfl);rw[hl]at this
    cases this)
  have bc:Hid (∀v,mM m S=some v->∃sh,jB S=some sh/\pI B v sh):=kH (fun v hv=>bn _ (X9 hv));clear a6 G bn bo M E I k bp aw ax gB b4 DZ
  cases J:mM m S with
  | none=>
   rw[J]at N;simp only[Option.getD_none,Option.isSome_none]at N;have b5:(Instr.lookup 191 (.map (some r)) (.int .i64 S) true).run Tryz.prog W= .ok (.tuple #[.agg #[.nilFunc,.slice none 0 0,.nilFunc,.int .i64 0],.bool false]) W:=N;have nQ:=kH J;clear N J;cases pb<;>gi_wp2_with (refine⟨trivial,?_⟩;go_at_K)
   all_goals exact bT.out _ false ((z.out _ _ (ak.refl _ _)).alloc _) (ah.alloc (by simpa using d.out.dB 0 (.bool false)) _) (by first|rfl|(rw[Uy.out nQ.out];rfl))
  | some v=>
   rw[J]at N;simp only[Option.getD_some,Option.isSome_some]at N;have b5:(Instr.lookup 191 (.map (some r)) (.int .i64 S) true).run Tryz.prog W= .ok (.tuple #[v,.bool true]) W:=N;obtain⟨sh,Q,bs⟩:=bc.out v J;have av:=bs;obtain⟨tv,Ak,ck,lv,hv,aa,b8,F⟩:=bs;obtain⟨ft,ct,e1,b3,a1⟩:=aa
   have b6:lv= .nilFunc\/∃f c,lv= .func (Fn.func f) #[] c:=by
    cases hl:sh.list with
    | none=>rw[hl]at F;exact .inl F
    | some p=>rw[hl]at F;obtain⟨f,c,h,_⟩:=F;exact .inr ⟨f,c,h⟩
   subst e1;clear N b3 a1 b8 F Uy bc;cases pb
   case false=>
    clear av;subst hv;have nQ:=kH J;have nO:=kH Q;clear J Q;rcases b6 with rfl| ⟨f,c,rfl⟩
    all_goals gi_wp2_with (refine⟨trivial,?_⟩;go_at_K)
    all_goals exact bT.out _ false ((z.out _ _ (ak.refl _ _)).alloc _) (ah.alloc (by simpa using d.out.dB 0 (.bool false)) _) rfl
   obtain⟨fb, FR⟩:=ag (nD sh x.t);have c5:=dO x.t.kids;have bN:=mY x.t;have ba:=x.small
   have a7:∀Wa,Below W.heap.size W Wa->Calls Tryz.prog 143 #[v,.agg #[.int .i64 S,.string xt,.int .i64 xa,.int .i64 xz,.slice x.A xn x.c]] Wa fun e C=>(e= .returned (.bool fb)/\C.cell? ⟨B.heap.size+1,0,none⟩=some (.bool true)/\C.frozen? ⟨B.heap.size+1,0,none⟩=false/\B.heap.size+1<C.heap.size/\T<C.heap.size /\
    C.cell? ⟨T,0,none⟩=some (.int .i64 S)/\C.cell? ⟨T,4,none⟩=some (.slice x.A xn x.c)/\Hid (ak (fun g=>g=B.heap.size+1) W C/\ah C (B.heap.size+1) 4 #[.bool true]/\Below w.heap.size W4 C)):=fun Wa ao=>by
    have b2:=M8.out.1.trans (ao.mono M8.out.1.size);have h:=abt sh v x.t x.A x.c Wa w.heap.size (aca (by omega) b2.size) (av.kc (KC.of_below b2) b2.size) (aD.below (M8.out.2.trans (ao.mono (aca (by omega) M8.out.2.size))) (ab9 _) _ _ _ U) (by omega) (U4 Q);unfold aO at h;rw[VC,ad,ab,af,VB,FR]at h;refine h.mono ?_;rintro e C ⟨H,Z⟩;have O:Below W.heap.size W C:=ao.trans (Z.mono ao.size);have L:=d.out.below O d.out.lt;rw[b7]at L;have h5:=j.below O j.lt;exact⟨H,L.cell 0,L.frozen 0,L.lt,h5.lt,h5.cell 0,h5.cell 4,kH ⟨(ak.refl _ _).below O,L,M8.out.2.trans (O.mono (aca (by omega) M8.out.2.size))⟩⟩
   have bb:=kH FR;have nQ:=kH J;have nO:=kH Q;have bx:=kH U;subst hv;have Ls:=a7 (W.alloc (.cells #[.func (Fn.func ft) #[] ct,.slice Ak sh.kids.length ck,lv,.int .i64 sh.most] 197)) (ai _ _);clear J Q av c5 bN ba FR a7 U j
   have bl:dJ x.t=(fb&&(if S=4 then Cy x.t else true)):=by
    unfold dJ;rw[VC,nO.out];show(nD sh x.t&&_)=_;rw[bb.out]
   have Jr:=kH bl;clear bl;by_cases bu:fb=true/\S=4
   case neg=>
    have a8:fb=(true&&dJ x.t):=by
     rw[Jr.out];cases fb
     ·rfl
     have:S≠4:=fun h=>bu ⟨rfl,h⟩
     simp[this]
    have bG:=kH a8;clear a8;rcases b6 with rfl| ⟨f,c,rfl⟩
    all_goals gi_wp2_with (refine⟨trivial,?_⟩;gi_at_call 143;refine(CallsIn.inRound l (callsIn_wide.2 Ls)).mono ?_;clear Ls;rintro e C ⟨rfl,o1,c7,c8,bB,e0,e4,H5⟩)
    all_goals first
     | exact bT.out _ _ (z.out _ _ H5.out.1) (by simpa using H5.out.2.1.dB 0 _) bG.out
     | (exfalso;simp_all;done)
   obtain⟨rfl,rfl⟩:=bu
   obtain⟨y,b,R,hA,bM,bk,ar⟩:∃y b R,x.A=some ⟨b,R,none⟩/\b<w.heap.size/\W4.cell? ⟨b,R+1,none⟩=some (.string y)/\xn=1/\Cy x.t=ek y:=by
    have U:=bx.out;have FR:=bb.out
    have bP:xn=1:=by
     have H:some ⟨bO,[bA [9]],none,0⟩=some sh:=nO.out;cases H
     unfold nD oP at FR;simp only[acb,decide_eq_true_eq]at FR;have:=FR.1.2;simp at this;omega
    unfold Cy
    cases bm:x.t.kids with
    | nil=>rw[bm]at VB;simp at VB;omega
    | cons kt ks=>
     rw[bm]at U;obtain⟨⟨b,R,vals,H,Z,O,L⟩,-⟩:=U;obtain⟨A',c',h5,-⟩:=L.five;subst h5;exact⟨kt.text,b,R,H,Z,by simpa using O 1 _ rfl,bP,rfl⟩
   obtain⟨c6,ar⟩:=ar;have au:Hid (dJ x.t=ek y):=kH (by rw[Jr.out];simpa using ar);have HC:=kH bk;clear bk ar;rw[hA,c6]at Ls
   have q:=Ls.mono (R':=fun e C=>e= .returned (.bool true)/\C.cell? ⟨b,R+1,none⟩=some (.string y)/\b<C.heap.size/\C.cell? ⟨B.heap.size+1,0,none⟩=some (.bool true)/\C.frozen? ⟨B.heap.size+1,0,none⟩=false/\B.heap.size+1<C.heap.size/\T<C.heap.size /\
    C.cell? ⟨T,0,none⟩=some (.int .i64 4)/\C.cell? ⟨T,4,none⟩=some (.slice (some ⟨b,R,none⟩) 1 x.c)/\Hid (ak (fun g=>g=B.heap.size+1) W C/\ah C (B.heap.size+1) 4 #[.bool true]/\Below w.heap.size W4 C))
    (fun e C ⟨H,Z,O,L,h5,h6,h7,h8⟩=>⟨H,(h8.out.2.2.cell (p:=⟨b,_,none⟩) bM).trans HC.out,by omega,Z,O,L,h5,h6,h7,h8⟩)
   clear Ls;rcases b6 with rfl| ⟨f,c,rfl⟩
   all_goals gi_wp2_with (refine⟨trivial,?_⟩;gi_at_call 143;refine(CallsIn.inRound l (callsIn_wide.2 q)).mono ?_;clear q;rintro e C ⟨rfl,k1,kl,o1,c7,c8,bB,e0,e4,H5⟩)
   all_goals
    rename_i hyi
    exact bT.out _ _ (z.out _ _ (z.out _ _ H5.out.1)) (by simpa using(H5.out.2.1.dB 0 (.bool true)).dB 0 _) (by rw[au.out,OV];simp[hyi])
 case done=>
  rintro D ys W hD bw ⟨⟨M,G⟩,E,I⟩ hK;have c0:=G.cell 0;have bd:=kH hK;have HF:=kH (b0.trans (E.mono (by omega)));have bI:w.heap.size<=D:=by omega
  have aE:(ys.all fun x=>dJ x.t)=eX t:=by
   unfold eX;rw[<- bw,List.all_map];rfl
  rw[aE]at c0;clear M G E I hK bw aw ax gB b4 DZ bt b0;gi_wp2
  refine⟨by simp,.inl ⟨_,_,rfl,run_takeDeferred bd.out,?_⟩⟩;refine⟨_,results_tmp rfl _ _ _,?_⟩;exact⟨rfl,HF.out.trans (belowK_b (w:=w) (ab9 _) W D _ _ bI bd.out rfl rfl)⟩
 rintro D c V W _ _ h _;exact h.elim
theorem Oq(t:ae)(A:Option Addr)(c:Nat)(w:World)(R:aB t<=1000000000)(Q:aD w w.heap.size A 0 t.kids):
 Calls Tryz.prog 40 #[aO t A c] w fun e w'=>e= .returned (.bool (dC t))/\Below w.heap.size w w':=by
 obtain⟨q, D⟩:=ag (dC t);have I:=U3 t A c (w.alloc (.cells #[.int .i64 t.kind,.string t.text,.int .i64 t.at_,.int .i64 t.end_,.slice A t.kids.length c] 24)) R (aD.mono (by simp) _ _ _ (aD.below (ai _ _) (ab9 _) _ _ _ Q));have B:=ai w (.cells #[.int .i64 t.kind,.string t.text,.int .i64 t.at_,.int .i64 t.end_,.slice A t.kids.length c] 24);have E:=I.mono (R':=fun e w'=>e= .returned (.bool (eX t))/\Below w.heap.size w w') (fun e w' ⟨S,M⟩=>⟨S,B.trans (M.mono (by simp))⟩);unfold aO at E⊢;rw[D];unfold dC at D;obtain⟨k, C⟩:=ag t.kind;obtain⟨x, J⟩:=ag t.text;obtain⟨a, F⟩:=ag t.at_;obtain⟨z, L⟩:=ag t.end_;obtain⟨n, G⟩:=ag t.kids.length;obtain⟨U, H⟩:=ag (eX t);rw[C,J,F,L,G]at E B⊢;rw[H]at E D;rw[C]at D;have N:=kH B;have O:=kH D;clear Q I C J F L G H D R B;by_cases M:k=2
 ·subst M
  go_in
  go_wp2_with fail
  refine E.mono ?_;rintro e V ⟨rfl,T⟩;go_wp2_with fail
  go_ret
  exact⟨kS (by rw[<- O.out];simp),T⟩
 clear E;go_in
 go_wp2_with fail
 go_ret
 exact⟨kS (by rw[<- O.out];simp[M]),N.out⟩
end Go.Proofs.YtoepemlnlpamlaaGreat
namespace Go.Proofs.YtoepemlnlpamlaaGreat
theorem lM(sh:uM):∀(ts:List ae) (i:Nat),dh sh i ts=true->∀c∈ts,∃p,(sh.list=some p\/p∈sh.kids)/\p c.kind=true
 | [],_,_,c,B=>by cases B
 | t::ts,i,h,c,B=>by
  rw[dh,acb]at h;rcases List.mem_cons.1 B with rfl|B
  ·have A:=h.1
   unfold jO at A
   cases D:sh.list with
   | some p=>rw[D]at A;exact⟨p,.inl rfl,A⟩
   | none=>
    rw[D]at A
    cases C:sh.kids[i]? with
    | none=>rw[C]at A;cases A
    | some p=>rw[C]at A;exact⟨p,.inr (acn C),A⟩
  exact lM sh ts (i+1) h.2 c B
def AP(p:Int->Bool):Prop:=∀k,p k=true->k≠2/\k≠3/\k≠4/\k≠5
theorem ED:AP bU:=fun k h=>by unfold bU at h;simp only[Bool.or_eq_true,decide_eq_true_eq]at h;omega
theorem Vu:AP kg:=fun k h=>by unfold kg at h;simp only[acb,decide_eq_true_eq]at h;omega
theorem rE:AP aN:=fun k h=>by unfold aN at h;simp only[acb,decide_eq_true_eq]at h;omega
theorem CR:AP iC:=fun k h=>by unfold iC at h;simp only[Bool.or_eq_true,decide_eq_true_eq]at h;omega
theorem pV{p:Int->Bool}(h:AP p):AP (eU p):=fun k A=>by
 unfold eU at A;simp only[Bool.or_eq_true,decide_eq_true_eq]at A;rcases A with A|A
 ·omega
 exact h k A
theorem sU{l:List Int}(h:∀y∈l,y≠2/\y≠3/\y≠4/\y≠5):AP (bA l):=fun k A=>by
 unfold bA at A;rw[List.any_eq_true]at A;obtain⟨y,B,A⟩:=A;rw[decide_eq_true_eq]at A;subst A;exact h _ B
theorem CJ{k:Int}{sh:uM}(h:jB k=some sh)(C:k≠2)(D:k≠3):(∀p,sh.list=some p->AP p)/\∀p∈sh.kids,AP p:=by
 cases k with
 | negSucc n=>cases h
 | ofNat n=>
  have B:lT n=some sh:=h;have E:n≠2:=fun e=>C (by rw[e];rfl)
  have F:n≠3:=fun e=>D (by rw[e];rfl)
  clear h C D;unfold lT at B;split at B<;>first|(cases B;done)|(exact absurd rfl E)|(exact absurd rfl F)|skip
  all_goals
   cases B
   refine⟨?_,?_⟩
   ·intro p A
    first
     | (cases A;done)
     | (cases A;first|exact Vu|exact rE|exact sU (by decide))
   intro p A
   first
    | (cases A;done)
    | (simp only[List.mem_cons,List.not_mem_nil,or_false]at A
       first
        | (rcases A with rfl|rfl|rfl<;>first|exact rE|exact CR|exact sU (by decide)|exact pV ED|exact pV rE|exact pV (sU (by decide)))
        | (rcases A with rfl|rfl<;>first|exact rE|exact CR|exact sU (by decide)|exact pV ED|exact pV rE|exact pV (sU (by decide)))
        | (subst A;first|exact rE|exact CR|exact sU (by decide)|exact pV ED|exact pV rE|exact pV (sU (by decide))))
theorem fM{t:ae}(h:dJ t=true):∃sh,jB t.kind=some sh/\nD sh t=true:=by
 unfold dJ at h
 cases A:jB t.kind with
 | none=>rw[A]at h;cases h
 | some sh=>
  rw[A]at h;rw[acb]at h;exact⟨sh,rfl,h.1⟩
theorem jg{sh:uM}{t:ae}(h:nD sh t=true):sh.text t.text=true/\oP sh t.kids.length=true/\dh sh 0 t.kids=true:=by
 unfold nD at h;rw[acb,acb]at h;exact⟨h.1.1,h.1.2,h.2⟩
theorem iZ(t:ae):eX t=(dJ t&&(bg t.kids).all dJ):=by
 unfold eX;rw[iK,List.all_cons]
mutual
theorem Vz:∀(t:ae),eX t=true->(t.kind≠2/\t.kind≠3/\t.kind≠4/\t.kind≠5)->Ed t=true
 | .node k x a e kids,h,hk=>by
  rw[iZ,acb]at h;obtain⟨sh,L,J⟩:=fM h.1;obtain⟨-,G,M⟩:=jg J;have A:k≠2/\k≠3/\k≠4/\k≠5:=hk;have B:jB k=some sh:=L;obtain⟨H,I⟩:=CJ B A.1 A.2.1;rw[Ed];simp only[acb,Bool.or_eq_true,decide_eq_true_eq];refine⟨⟨⟨A,?_⟩,?_⟩,yM kids h.2 fun c G=>?_⟩
  ·by_cases C:k=12
   ·subst C
    right
    have:some _=some sh:=B;cases this
    simpa [oP,ae.kids] using G
   exact .inl C
  ·by_cases D:k=16
   ·subst D
    right
    have:some _=some sh:=B;cases this
    simpa [oP,ae.kids] using G
   exact .inl D
  obtain⟨p,E,F⟩:=lM sh kids 0 M c G;rcases E with E|E
  ·exact H p E _ F
  exact I p E _ F
theorem yM:∀(ts:List ae),(bg ts).all dJ=true->(∀c∈ts,c.kind≠2/\c.kind≠3/\c.kind≠4/\c.kind≠5)->lH ts=true
 | [],_,_=>by rw[lH]
 | t::ts,h,hc=>by
  rw[bg,List.all_append,acb]at h;rw[lH,acb];exact⟨Vz t h.1 (hc t (by simp)),yM ts h.2 fun c A=>hc c (by simp[A])⟩
end
theorem Vf{ts:List ae}(h:(bg ts).all dJ=true):∀c∈ts,eX c=true:=by
 induction ts with
 | nil=>intro c A;cases A
 | cons t ts ih=>
  rw[bg,List.all_append,acb]at h;intro c A;rcases List.mem_cons.1 A with rfl|A
  ·exact h.1
  exact ih h.2 c A
theorem fU{t:ae}(h:eX t=true):∀c∈t.kids,eX c=true:=by
 rw[iZ,acb]at h;exact Vf h.2
theorem SG(t:ae)(h:eX t=true)(H:t.kind=3\/t.kind=5):qd t=true:=by
 have T:=fU h;have N:=h;rw[iZ,acb]at N;obtain⟨sh,G,I⟩:=fM N.1;obtain⟨-,F,O⟩:=jg I;have D:=lM sh t.kids 0 O;obtain⟨k,x,a,e,R⟩:=t;rw[qd,Bool.or_eq_true,acb,acb,acb,decide_eq_true_eq,decide_eq_true_eq,decide_eq_true_eq];rcases H with H|H
 ·left
  have E:k=3:=H;subst E;have M:some _=some sh:=G;cases M
  refine⟨rfl,List.all_eq_true.2 fun f I=>?_⟩;rw[acb,decide_eq_true_eq]
  have Q:f.kind=4:=by
   obtain⟨p,A,B⟩:=D f I;rcases A with A|A
   ·cases A
    simpa [bA] using B
   cases A
  refine⟨Q,?_⟩;have C:=T f I;have S:=fU C;rw[iZ,acb]at C;obtain⟨sh,G,U⟩:=fM C.1;obtain⟨-,F,O⟩:=jg U;refine yM _ C.2 fun c F=>?_
  rw[Q]at G;obtain⟨J,L⟩:=CJ G (by decide) (by decide);obtain⟨p,A,B⟩:=lM sh f.kids 0 O c F;rcases A with A|A
  ·exact J p A _ B
  exact L p A _ B
 right
 have E:k=5:=H;subst E;have M:some _=some sh:=G;obtain⟨J,L⟩:=CJ G (show(5:Int)≠2 by decide) (show(5:Int)≠3 by decide);cases M
 refine⟨⟨rfl,by simpa [oP,ae.kids] using F⟩,yM _ N.2 fun c F=>?_⟩;obtain⟨p,A,B⟩:=D c F;rcases A with A|A
 ·exact J p A _ B
 exact L p A _ B
theorem tT{t:ae}(h:dC t=true):t.kind=2/\∀k∈t.kids,qd k=true:=by
 unfold dC at h;rw[acb,decide_eq_true_eq]at h;refine⟨h.1,fun k D=>?_⟩;have C:=fU h.2 k D;have E:=h.2;rw[iZ,acb]at E;obtain⟨sh,F,H⟩:=fM E.1;obtain⟨-,J,I⟩:=jg H;obtain⟨p,A,B⟩:=lM sh t.kids 0 I k D;rw[h.1]at F;have G:some _=some sh:=F;cases G
 rcases A with A|A
 ·cases A
  have:k.kind=3\/k.kind=5:=by simpa [bA] using B
  exact SG k C this
 cases A
theorem IA{A:Bool}:∀{ts:List ae},(∀t∈ts,pq A t=true)->lG A ts=true
 | [],_=>by rw[lG]
 | t::ts,h=>by
  rw[lG,acb];exact⟨h t (by simp),IA fun u B=>h u (by simp[B])⟩
mutual
theorem vok_inT:∀(t:ae),Ed t=true->pq false t=true
 | .node k x a e kids,h=>by
  rw[Ed]at h;simp only[acb,Bool.or_eq_true,decide_eq_true_eq]at h;obtain⟨⟨⟨E,A⟩,B⟩,C⟩:=h;have D:=Gf kids C;rw[pq,if_neg (show ¬k=5 by omega)];split
  ·exact D
  split
  ·simp only[Bool.not_false,Bool.true_and,acb,Bool.or_eq_true,decide_eq_true_eq]
   exact⟨⟨A,B⟩,D⟩
  exact D
theorem Gf:∀(ts:List ae),lH ts=true->lG false ts=true
 | [],_=>by rw[lG]
 | t::ts,h=>by
  rw[lH,acb]at h;rw[lG,acb];exact⟨vok_inT t h.1,Gf ts h.2⟩
end
theorem JK{c:ae}(h:eX c=true)(E:c.kind=9):c.kids=[]:=by
 rw[iZ,acb]at h;obtain⟨sh,A,D⟩:=fM h.1;obtain⟨-,B,-⟩:=jg D;rw[E]at A;have C:some _=some sh:=A;cases C
 have:c.kids.length=0:=by simpa [oP] using B
 exact List.length_eq_zero_iff.1 this
theorem LV{f:ae}(h:eX f=true)(G:f.kind=4):∀c∈f.kids,c.kind=9:=by
 rw[iZ,acb]at h;obtain⟨sh,C,F⟩:=fM h.1;obtain⟨-,-,H⟩:=jg F;rw[G]at C;have E:some _=some sh:=C;cases E
 intro c D;obtain⟨p,A,B⟩:=lM _ f.kids 0 H c D;rcases A with A|A
 ·cases A
 simp only[List.mem_cons,List.not_mem_nil,or_false]at A;subst A;simpa [bA] using B
theorem Xm{f:ae}(h:eX f=true)(E:f.kind=4):pq true f=true:=by
 have D:=LV h E;have F:=fU h;obtain⟨k,x,a,e,A⟩:=f;have C:k=4:=E;subst C;rw[pq,if_neg (by decide),if_neg (by decide),if_neg (by decide)];refine IA fun c B=>?_
 have G:=JK (F c B) (D c B);have H:=D c B;obtain⟨k,x,a,e,A⟩:=c;have I:A=[]:=G;have J:k=9:=H;subst I J;rw[pq,if_neg (by decide),if_neg (by decide),if_neg (by decide),lG]
theorem vok_top{t:ae}(h:eX t=true)(E:qd t=true):pq true t=true:=by
 have F:=fU h;obtain⟨k,x,a,e,B⟩:=t;rw[qd,Bool.or_eq_true,acb,acb,acb,decide_eq_true_eq,decide_eq_true_eq,decide_eq_true_eq]at E;rcases E with⟨rfl,G⟩| ⟨⟨rfl,H⟩,C⟩
 ·rw[pq,if_neg (by decide),if_neg (by decide),if_neg (by decide)]
  refine IA fun f A=>?_
  have D:=List.all_eq_true.1 G f A;rw[acb,decide_eq_true_eq]at D;exact Xm (F f A) D.1
 rw[pq,if_pos rfl,acb,decide_eq_true_eq];exact⟨H,Gf B C⟩
theorem Xu{t:ae}(h:dC t=true):pq true t=true:=by
 obtain⟨C,D⟩:=tT h;unfold dC at h;rw[acb]at h;have E:=fU h.2;obtain⟨k,x,a,e,B⟩:=t;have F:k=2:=C;subst F;rw[pq,if_neg (by decide),if_neg (by decide),if_neg (by decide)];exact IA fun c A=>vok_top (E c A) (D c A)
end Go.Proofs.YtoepemlnlpamlaaGreat
