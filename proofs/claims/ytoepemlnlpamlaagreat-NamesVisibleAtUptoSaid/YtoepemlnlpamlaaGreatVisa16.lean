/- The law NamesVisibleAt holds where what it reads is of bulk at most 1048576: it returns true, and its arguments read as before. Part 16: AMap AMapW LexN LexO Shp1. -/
import Derived.Maps.RangeRun
import Derived.Maps.Own
import Derived.Laws.IdiomStrings
import Derived.Test.YtoepemlnlpamlaaGreatVisa01
import Derived.Test.YtoepemlnlpamlaaGreatVisa02
import Derived.Test.YtoepemlnlpamlaaGreatVisa03
import Derived.Test.YtoepemlnlpamlaaGreatVisa15
set_option maxRecDepth 100000
set_option maxHeartbeats 4000000
namespace Go.Proofs.YtoepemlnlpamlaaGreat
open Go.RowKit
open Go.ChangeMaps (setBlock)
def mR{K:Type}[DecidableEq K](k:K):List (K×Value)->Nat->Option (Nat×Value)
 | [],_=>none
 | x::m,i=>if k=x.1 then some (i,x.2) else mR k m (i+1)
def nV{K:Type}[DecidableEq K](m:List (K×Value))(k:K):Option Value:=(mR k m 0).map (·.2)
structure oW (K:Type) [DecidableEq K] where
 qz:K->Value
 desc:TypeDesc
 same:∀k j,Instr.sameNow desc (qz k) (qz j)=some (decide (k=j))
 check:∀(P:Program) (kt:TypeId) (b:Bool) (n:Nat) (k:K) (w:World),P.underlying kt=some desc->(Instr.checkKey b (n+1) kt (qz k)).run P w= .ok () w
 bits:∀k,Instr.sameBits 10000 (qz k) (qz k)=true
theorem ba_beq(k j:ByteArray):(k==j)=decide (k=j):=by
 obtain⟨a⟩:=k;obtain⟨b⟩:=j;show(a==b)=_;rw[Bool.eq_iff_iff];simp
def jo:oW ByteArray where
 qz:=.string
 desc:=.string
 same k j:=by simp[Instr.sameNow,ba_beq]
 check P kt b n k w h:=by simp[Instr.checkKey,run_underlying h]
 bits k:=by simp[Instr.sameBits,ba_beq]
def kX:oW Int where
 qz:=.int .i64
 desc:=.int .i64
 same k j:=by simp[Instr.sameNow];rw[Bool.eq_iff_iff];simp
 check P kt b n k w h:=by simp[Instr.checkKey,run_underlying h]
 bits k:=by simp[Instr.sameBits]
section
variable {K:Type} [DecidableEq K] {KK:oW K}
theorem EB(k:K):∀(m:List (K×Value)) (i j:Nat),mR k m (i+j)=(mR k m j).map fun x=>(i+x.1,x.2)
 | [],i,j=>rfl
 | x::m,i,j=>by
  unfold mR;by_cases h:k=x.1
  ·simp[h]
  ·rw[if_neg h,if_neg h,Nat.add_assoc,EB k m i (j+1)]
theorem MS(k:K):∀(A:List MapEntry) (m:List (K×Value)) (i:Nat),A.map (fun e=>(e.key,e.val))=m.map (fun x=>(KK.qz x.1,x.2))->Instr.findNow KK.desc (KK.qz k) A i=some (mR k m i)
 | [],m,i,h=>by
  cases m with
  | nil=>rfl
  | cons x m=>simp at h
 | e::A,m,i,h=>by
  cases m with
  | nil=>simp at h
  | cons x m=>
   simp only[List.map_cons,List.cons.injEq,Prod.mk.injEq]at h;obtain⟨⟨C,D⟩,E⟩:=h;unfold Instr.findNow mR;rw[C,KK.same];by_cases B:k=x.1
   ·simp[B,D]
   ·simp only[B,decide_false,if_false]
    exact MS k A m (i+1) E
def bA(KK:oW K)(w:World)(r:Nat)(m:List (K×Value)):Prop:=
 ∃es clock,w.heap[r]? =some (.map es clock)/\es.toList.map (fun e=>(e.key,e.val))=m.map (fun x=>(KK.qz x.1,x.2))/\(∀e∈es.toList,e.born<clock)/\(es.toList.map (·.born)).Nodup
variable {w w':World}{r:Nat}{m:List (K×Value)}
theorem bA.keep(h:bA KK w r m)(E:w'.heap[r]? =w.heap[r]?):bA KK w' r m:=by
 obtain⟨B,A,C,D⟩:=h;exact⟨B,A,E.trans C,D⟩
theorem bA.lt(h:bA KK w r m):r<w.heap.size:=by
 obtain⟨C,A,B,_⟩:=h;exact(aae.1 B).1
theorem bA.alloc(h:bA KK w r m)(o:Obj):bA KK (w.alloc o) r m:=h.keep (Below.heap_alloc w o r h.lt)
theorem bA.drew(h:bA KK w r m):bA KK w.drew r m:=h
theorem bA.drewN(h:bA KK w r m)(n:Nat):bA KK (w.drewN n) r m:=h
theorem bA.setCell(h:bA KK w r m){p:Addr}(A:r≠p.block)(u:Value):bA KK (w.setCell p u) r m:=h.keep (Below.heap_setCell w p u r A)
theorem bA.below{B:Nat}(h:bA KK w r m)(A:Below B w w')(C:r<B):bA KK w' r m:=h.keep (A.block r C)
theorem bA.since{S:Nat->Prop}(h:bA KK w r m)(B:aF S w w')(A:¬S r):bA KK w' r m:=h.keep (B.block r h.lt A)
theorem bA.made(w:World):bA KK (w.alloc (.map #[] 0)) w.heap.size []:=⟨#[],0,heap_alloc_new w _,rfl,by simp,by simp⟩
variable {P:Program}{t kt et:TypeId}
theorem uS(B:P.underlying kt=some KK.desc)(k:K)(A:List MapEntry)(h:A.map (fun e=>(e.key,e.val))=m.map (fun x=>(KK.qz x.1,x.2)))(w:World):
 (Instr.findKey kt (KK.qz k) A).run P w= .ok (mR k m 0) w:=by
 simp[Instr.findKey,run_underlying B,MS k A m 0 h]
theorem vW(F:P.underlying t=some (.map kt et))(B:P.underlying kt=some KK.desc){z:Value}(G:∀w,(zeroValue et).run P w= .ok z w)(h:bA KK w r m)(k:K):
 (Instr.lookup t (.map (some r)) (KK.qz k) false).run P w= .ok ((nV m k).getD z) w:=by
 obtain⟨C,A,D,E,H⟩:=h;simp[Instr.lookup,run_underlying F,MapKept.run_getObj_map D,KK.check _ _ _ _ _ _ B,uS B k C.toList E];unfold nV
 cases mR k m 0 with
 | none=>simp[G]
 | some x=>simp
theorem Ct(F:P.underlying t=some (.map kt et))(B:P.underlying kt=some KK.desc){z:Value}(G:∀w,(zeroValue et).run P w= .ok z w)(h:bA KK w r m)(k:K):
 (Instr.lookup t (.map (some r)) (KK.qz k) true).run P w= .ok (.tuple #[(nV m k).getD z,.bool (nV m k).isSome]) w:=by
 obtain⟨C,A,D,E,H⟩:=h;simp[Instr.lookup,run_underlying F,MapKept.run_getObj_map D,KK.check _ _ _ _ _ _ B,uS B k C.toList E];unfold nV
 cases mR k m 0 with
 | none=>simp[G]
 | some x=>simp
def p8(m:List (K×Value))(k:K)(v:Value):List (K×Value):=
 match mR k m 0 with
 | none=>m++[(k,v)]
 | some (i,_)=>m.modify i fun _=>(k,v)
theorem Ir(k:K):∀(m:List (K×Value)) (j i:Nat) (v:Value),mR k m j=some (i,v)->∃n,i=j+n/\m[n]? =some (k,v)
 | [],j,i,v,h=>by cases h
 | x::m,j,i,v,h=>by
  unfold mR at h;by_cases A:k=x.1
  ·rw[if_pos A]at h
   cases h
   exact⟨0,rfl,by rw[A];rfl⟩
  ·rw[if_neg A]at h
   obtain⟨n,C,B⟩:=Ir k m (j+1) i v h;exact⟨n+1,by omega,by simpa using B⟩
theorem xD{A β:Type}(f:A->β)(g:A->A)(B:β->β)(h:∀x,f (g x)=B (f x)):∀(l:List A) (i:Nat),(l.modify i g).map f=(l.map f).modify i B
 | [],i=>by simp
 | x::l,0=>by simp[List.modify_zero_cons,h]
 | x::l,i+1=>by simp[List.modify_succ_cons,xD f g B h l i]
theorem fI(Y:P.underlying t=some (.map kt et))(M:P.underlying kt=some KK.desc)(h:bA KK w r m)(k:K)(v:Value):
 ∃N,(Instr.mapUpdate t (.map (some r)) (KK.qz k) v).run P w= .ok () N/\bA KK N r (p8 m k v)/\w.grownBy N (some r)/\N.heap.size=w.heap.size:=by
 obtain⟨C,A,F,G,O,W⟩:=h;have T:r<w.heap.size:=(aae.1 F).1
 have J:∀o:Obj,w.grownBy { w with heap:=w.heap.setIfInBounds r o } (some r):=fun o=>
  ⟨rfl,rfl,rfl,by simp,fun i _ q=>by simp[Array.getElem?_setIfInBounds];intro e;exact absurd (by rw[e]) q⟩
 have H:∀o:Obj,({ w with heap:=w.heap.setIfInBounds r o }:World).heap[r]? =some o:=fun o=>by simp[T]
 unfold p8
 cases V:mR k m 0 with
 | none=>
  refine⟨{ w with heap:=w.heap.setIfInBounds r (.map (C.push { key:=KK.qz k,val:=v,born:=A }) (A+1)) },?_,⟨_,_,H _,?_,?_,?_⟩,J _,by simp⟩
  ·simp[Instr.mapUpdate,run_underlying Y,MapKept.run_getObj_map F,KK.check _ _ _ _ _ _ M,uS M k C.toList G,V,MapKept.run_setObj_map _ F]
  ·simp[G]
  ·intro e D
   simp at D;rcases D with D|rfl
   ·have:=O e (by simpa using D)
    omega
   ·simp
  ·simp only[Array.toList_push,List.map_append,List.map_cons,List.map_nil]
   rw[List.nodup_append];refine⟨W,by simp,fun a X b L=>?_⟩;simp at L;subst L;simp only[List.mem_map]at X;obtain⟨e,D,rfl⟩:=X;have:=O e D;omega
 | some x=>
  obtain⟨i,Z⟩:=x;obtain⟨n,l,z⟩:=Ir k m 0 i Z V;have S:i=n:=by omega
  subst S;have B:(C.toList.map fun e=>(e.key,e.val))[i]? =some (KK.qz k,Z):=by rw[G];simp[z]
  rw[List.getElem?_map]at B
  cases E:C.toList[i]? with
  | none=>rw[E]at B;cases B
  | some e0=>
   rw[E]at B;simp at B;have I:C[i]? =some e0:=by simpa using E
   refine⟨{ w with heap:=w.heap.setIfInBounds r (.map (C.modify i fun e=> { e with key:=KK.qz k,val:=v }) A) },?_,⟨_,_,H _,?_,?_,?_⟩,J _,by simp⟩
   ·simp[Instr.mapUpdate,run_underlying Y,MapKept.run_getObj_map F,KK.check _ _ _ _ _ _ M,uS M k C.toList G,V,MapKept.run_setObj_map _ F,Instr.keyThatStays,I,B.1,KK.bits]
   ·rw[Array.toList_modify,xD (fun e:MapEntry=>(e.key,e.val)) _ (fun _=>(KK.qz k,v)) (fun _=>rfl),G,xD (fun x:K×Value=>(KK.qz x.1,x.2)) (fun _=>(k,v)) (fun _=>(KK.qz k,v)) (fun _=>rfl)]
   ·have L:=xD (fun e:MapEntry=>e.born) (fun e=> { e with key:=KK.qz k,val:=v }) id (fun _=>rfl) C.toList i
    intro e D;rw[Array.toList_modify]at D;have U:e.born∈((C.toList.modify i fun e=> { e with key:=KK.qz k,val:=v }).map fun e:MapEntry=>e.born):=List.mem_map.2 ⟨e,D,rfl⟩;rw[L]at U;simp at U;obtain⟨y,R,u⟩:=U;rw[<- u];exact O y (by simpa using R)
   ·rw[Array.toList_modify,xD (fun e:MapEntry=>e.born) (fun e=> { e with key:=KK.qz k,val:=v }) id (fun _=>rfl)]
    simpa using W
def nz(KK:oW K)(w:World)(r b:Nat)(m:List (K×Value))(left:List (Value×Value)):Prop:=
 ∃es clock seen c0,w.heap[r]? =some (.map es clock)/\es.toList.map (fun e=>(e.key,e.val))=m.map (fun x=>(KK.qz x.1,x.2))/\(∀e∈es.toList,e.born<clock)/\(es.toList.map (·.born)).Nodup /\
  w.heap[b]? =some (.mapIter (some r) clock seen c0)/\clock<=c0/\left=(leftOf es seen).toList.map fun e=>(e.key,e.val)
theorem nz.oP{b:Nat}{left:List (Value×Value)}(h:nz KK w r b m left):bA KK w r m:=by
 obtain⟨C,A,B,H,D,E,F,G,-⟩:=h;exact⟨C,A,D,E,F,G⟩
theorem nz.keep{b:Nat}{left:List (Value×Value)}(h:nz KK w r b m left)(M:w'.heap[r]? =w.heap[r]?)(L:w'.heap[b]? =w.heap[b]?):nz KK w' r b m left:=by
 obtain⟨D,A,B,C,E,F,G,H,I,J⟩:=h;exact⟨D,A,B,C,M.trans E,F,G,H,L.trans I,J⟩
theorem Bq(G:P.underlying t=some (.map kt et))(h:bA KK w r m):
 ∃w',(Instr.range t (.map (some r))).run P w= .ok (.pointer (some ⟨w.heap.size,0,none⟩)) w'/\nz KK w' r w.heap.size m (m.map fun x=>(KK.qz x.1,x.2))/\Below w.heap.size w w'/\w'.heap.size=w.heap.size+1:=by
 obtain⟨C,A,B,D,E,F⟩:=h;refine⟨_,run_range_map w t kt et r C A G B,⟨C,A,#[],A,?_,D,E,F,heap_alloc_new w _,aab _,?_⟩,ag _ _,by simp⟩
 ·exact(Below.heap_alloc w _ r (aae.1 B).1).trans B
 ·unfold leftOf
  rw[<- D,Array.toList_filter];congr 1
  exact(List.filter_eq_self.2 fun e _=>by simp).symm
theorem DW:∀(l:List MapEntry) (e:MapEntry),(l.map (·.born)).Nodup->e∈l->l.Perm (e::l.filter fun x=> !(x.born==e.born))
 | [],e,_,h=>by cases h
 | x::l,e,hn,h=>by
  simp only[List.map_cons,List.nodup_cons]at hn;rcases List.mem_cons.1 h with rfl|h
  ·have C:(l.filter fun x=> !(x.born==e.born))=l:=by
    rw[List.filter_eq_self];intro y E;simp;intro A;exact hn.1 (by rw[<- A];exact List.mem_map.2 ⟨y,E,rfl⟩)
   simp[C]
  ·have B:x.born≠e.born:=by
    intro A;exact hn.1 (by rw[A];exact List.mem_map.2 ⟨e,h,rfl⟩)
   have:=DW l e hn.2 h;have D:(!(x.born==e.born))=true:=by simp[B]
   rw[List.filter_cons,if_pos D];exact(List.Perm.cons x this).trans (List.Perm.swap e x _)
theorem Da{b:Nat}{left:List (Value×Value)}(T:TypeId)(h:nz KK w r b m left)(R:r≠b):
 (left=[]/\(Instr.next (.pointer (some ⟨b,0,none⟩)) false T).run P w= .ok (.tuple #[.bool false]) w) \/
 ∃k v E w',left.Perm ((k,v)::E)/\(k,v)∈(m.map fun x=>(KK.qz x.1,x.2))/\(Instr.next (.pointer (some ⟨b,0,none⟩)) false T).run P w= .ok (.tuple #[.bool true,k,v]) w' /\
  nz KK w' r b m E/\aF (fun g=>g=b) w w'/\w'.heap.size=w.heap.size/\(Instr.entry (.pointer (some ⟨b,0,none⟩))).run P w'= .ok (.tuple #[k,v]) w':=by
 obtain⟨F,A,B,z,U,V,W,M,X,y,Y⟩:=h;rcases run_next_at (P:=P) w T b r A z B F A X U W y with⟨u,q⟩| ⟨e,Z,L,S,J⟩
 ·left
  refine⟨?_,q⟩;rw[Y];have:(leftOf F B)= #[]:=Array.eq_empty_of_size_eq_zero u;rw[this];rfl
 ·right
  have O:b<w.heap.size:=(aae.1 X).1
  have C:aF (fun g=>g=b) w L/\L.heap=w.heap:=by
   rcases S with rfl|rfl
   ·exact⟨aF.refl _ _,rfl⟩
   ·exact⟨(aF.refl _ _).drew,rfl⟩
  have D:∀g o,g≠b->(setBlock L b o).heap[g]? =w.heap[g]? :=by
   intro g o N;simp[setBlock,C.2,Ne.symm N]
  have G:=mem_left Z;have I:(setBlock L b (.mapIter (some r) A (B.push e.born) A)).heap[r]? =some (.map F A):=(D r _ R).trans U
  have H:(setBlock L b (.mapIter (some r) A (B.push e.born) A)).heap[b]? =some (.mapIter (some r) A (B.push e.born) A):=by
   simp[setBlock,C.2,O]
  refine⟨e.key,e.val,(leftOf F (B.push e.born)).toList.map fun e=>(e.key,e.val),_,?_,?_,J,⟨F,A,B.push e.born,A,I,V,W,M,H,aab _,rfl⟩,?_,?_,run_entry_at _ b r A B F A e H I G.1 M⟩
  ·rw[Y]
   have l:=DW (leftOf F B).toList e (by
    unfold leftOf;rw[Array.toList_filter]
    exact List.Nodup.sublist (List.Sublist.map _ List.filter_sublist) M) Z
   have n:(leftOf F (B.push e.born)).toList=(leftOf F B).toList.filter fun x=> !(x.born==e.born):=by
    unfold leftOf;rw[Array.toList_filter,Array.toList_filter,List.filter_filter];congr 1
    funext x
    rw[contains_push];cases B.contains x.born<;>cases x.born==e.born<;>rfl
   rw[n];exact l.map _
  ·rw[<- V]
   exact List.mem_map.2 ⟨e,G.1,rfl⟩
  ·exact⟨C.1.os,C.1.tape,C.1.output,by simp[setBlock,C.2],fun g _ N=>D g _ N⟩
  ·simp[setBlock,C.2]
end
section
variable {K:Type} [DecidableEq K] {KK:oW K}{P:Program}(w:World) {ops:Array Oper}{rest:List Oper}{o:Oper}{a:Act}{Q:Exit->Act->World->Prop}
theorem Be(D:o.guard=none)(m x v:Operand)(t:TypeId)(F:o.op=Op.insert t m x v)(kt et:TypeId)(O:P.underlying t=some (.map kt et))(E:P.underlying kt=some KK.desc)(r:Nat)(l:List (K×Value))(key:K)(val:Value)
 (N:a.eval m= .map (some r)) (S:a.eval x=KK.qz key) (R:a.eval v=val) (h:bA KK w r l) {B:Nat}{H:World}(M:Below B H w) (G:B<=r)
 (L:∀w',bA KK w' r (p8 l key val)->Below B H w'->wpList P ops Q rest (a.put o.dst undef) w'):wpList P ops Q (o::rest) a w:=by
 refine wpList_plain D fun T C=>?_
 obtain⟨w',A,I,J,U⟩:=fI O E h key val;unfold Oper.wp;simp[execOp,F,N,S,R,A,Result.andThen];exact C _ _ (L w' I (M.trans (((aF.refl (fun g=>B<=g) w).grown J (fun k E=>by cases E;exact .inl G)).toBelow (Nat.le_of_lt (Nat.lt_of_le_of_lt G h.lt)) (fun g D=>D))))
end
theorem Mh(v:Value)(x:ByteArray):∀(A:List bB) (i:Nat),(mR x (A.map fun b=>(bf b,v)) i).map (·.2)=if tL A x.data.toList then some v else none
 | [],i=>rfl
 | b::A,i=>by
  unfold tL;simp only[List.map_cons,mR,List.any_cons];by_cases h:x=bf b
  ·rw[if_pos h]
   have:b=x.data.toList:=by rw[h];simp[bf]
   simp[this]
  ·rw[if_neg h]
   have:decide (b=x.data.toList)=false:=by
    apply decide_eq_false
    rintro rfl;exact h (by cases x;simp[bf])
   have B:=Mh v x A (i+1);unfold tL at B;rw[B];simp[this]
theorem Uy(v:Value)(A:List bB)(x:ByteArray):nV (A.map fun b=>(bf b,v)) x=if tL A x.data.toList then some v else none:=Mh v x A 0
theorem Jk(c:Nat)(w:World):Calls Tryz.prog 91 #[.int .u8 (c:Int)] w fun e w'=>e= .returned (.bool (kI c))/\w=w':=by
 by_cases A:97<=c
 ·have B:(97:Int)<=(c:Int):=by omega
  by_cases D:c<=122
  ·have C:(c:Int)<=122:=by omega
   go_in
   go_wp2
   go_ret
   exact⟨bH (by simp[kI,A,D]),rfl⟩
  ·have C:¬(c:Int)<=122:=by omega
   go_in
   go_wp2
   go_ret
   exact⟨bH (by simp[kI,A,D]),rfl⟩
 ·have B:¬(97:Int)<=(c:Int):=by omega
  go_in
  go_wp2
  go_ret
  exact⟨bH (by simp[kI,A]),rfl⟩
theorem M4(c:Nat)(w:World):Calls Tryz.prog 95 #[.int .u8 (c:Int)] w fun e w'=>e= .returned (.bool (fT c))/\w=w':=by
 by_cases A:48<=c
 ·have B:(48:Int)<=(c:Int):=by omega
  by_cases D:c<=57
  ·have C:(c:Int)<=57:=by omega
   go_in
   go_wp2
   go_ret
   exact⟨bH (by simp[fT,A,D]),rfl⟩
  ·have C:¬(c:Int)<=57:=by omega
   go_in
   go_wp2
   go_ret
   exact⟨bH (by simp[fT,A,D]),rfl⟩
 ·have B:¬(48:Int)<=(c:Int):=by omega
  go_in
  go_wp2
  go_ret
  exact⟨bH (by simp[fT,A]),rfl⟩
theorem id_any(c:Nat)(w:World):Calls Tryz.prog 94 #[.int .u8 (c:Int)] w fun e w'=>e= .returned (.bool (xG c))/\w=w':=by
 have E:=Jk c;have D:=M4 c;obtain⟨G,A⟩:∃b,kI c=b:=⟨_,rfl⟩
 obtain⟨H,B⟩:∃b,fT c=b:=⟨_,rfl⟩
 have F:xG c=(G || H || decide (c=95)):=by unfold xG;rw[A,B]
 rw[A]at E;rw[B]at D;have J:=kH E;have I:=kH D;have L:((c:Int)==95)=decide (c=95):=by rw[Bool.eq_iff_iff];simp;omega
 obtain⟨M,C⟩:∃b,decide (c=95)=b:=⟨_,rfl⟩
 rw[C]at L F;rw[F];clear E D A B C F;go_in
 go_wp2_with fail
 refine(J.out w).mono ?_;rintro e w' ⟨rfl,rfl⟩;cases G
 case true=>
  go_wp2_with fail
  go_ret
  exact⟨bH (by simp),rfl⟩
 go_wp2_with fail
 refine(I.out w).mono ?_;rintro e w' ⟨rfl,rfl⟩;cases H
 case true=>
  go_wp2_with fail
  go_ret
  exact⟨bH (by simp),rfl⟩
 go_wp2_with fail
 go_ret
 exact⟨bH (by simp),rfl⟩
def XB:List (ByteArray×Value):=RA.map fun b=>(bf b,.bool true)
theorem RG(w:World):Calls Tryz.prog 166 #[] w fun e w'=>e= .returned (.map (some w.heap.size))/\bA jo w' w.heap.size XB/\Below w.heap.size w w':=by
 have E:=@run_makeMap Tryz.prog;have C:bA jo (w.alloc (.map #[] 0)) w.heap.size []:=bA.made w;have D:Below w.heap.size w (w.alloc (.map #[] 0)):=ag _ _;go_in
 go_wp2_with (refine Be (KK:=jo) _ rfl _ _ _ 55 rfl 9 4 Tryz.underlying55 Tryz.underlying9 w.heap.size _ _ _ rfl rfl rfl (by assumption) (by assumption) (aab _) ?_;intro F B A)
 refine bodyPost_ret (v:=.map (some w.heap.size)) (by simp[results,Tryz.results166,go_sem]) rfl ?_;refine⟨rfl,Eq.mp (congrArg (bA jo F _) ?_) B,A⟩;kernel_rfl
theorem YQ(w:World):(zeroValue 4).run Tryz.prog w= .ok (.bool false) w:=by go_simp
theorem RH(s:ByteArray)(w:World):Calls Tryz.prog 92 #[.string s] w fun e w'=>e= .returned (.bool (Jm s.data.toList))/\Below w.heap.size w w':=by
 have A:∀(w':World) (r:Nat),bA jo w' r XB->(Instr.lookup 55 (.map (some r)) (.string s) false).run Tryz.prog w'= .ok (.bool (Jm s.data.toList)) w':=fun w' r h=>by
  have:=vW (P:=Tryz.prog) (KK:=jo) (t:=55) (kt:=9) (et:=4) Tryz.underlying55 Tryz.underlying9 YQ h s;rw[show nV XB s=_ from Uy (.bool true) RA s]at this;refine Eq.trans this ?_;unfold Jm;cases tL RA s.data.toList<;>rfl
 have B:=kH A;clear A;go_in
 go_wp2_with fail
 refine(RG w).mono ?_;rintro e F ⟨rfl,E,C⟩;have D:=B.out F _ E;go_wp2_with fail
 go_ret
 exact⟨rfl,C⟩
theorem run_id(s:ByteArray)(w:World)(M:s.size<=60000):
 Calls Tryz.prog 93 #[.string s,.int .i64 0,.func (Fn.func 94) #[] #[]] w fun e w'=>e= .returned (.int .i64 (iH (fun i=>xG (bz s.data.toList i)) s.data.toList s.size 0:Nat))/\w=w':=by
 go_in
 go_wp2_with fail
 go_loopg [1] s.size (fun gk s1 wr=> ∃k:Nat,k+gk=s.size/\s1= .int .i64 (k:Int)/\iH (fun i=>xG (bz s.data.toList i)) s.data.toList s.size 0=iH (fun i=>xG (bz s.data.toList i)) s.data.toList gk k/\w=wr)
 case atStart=>exact⟨0,by omega,rfl,rfl,rfl⟩
 case round=>
  obtain⟨k,L,rfl,B,rfl⟩:=hrel;have G:=kH B;clear B
  cases gk with
  | zero=>
   have F:k=s.size:=by omega
   subst F;go_wp2_with fail
   go_ret
   exact⟨by rw[G.out];rfl,rfl⟩
  | succ gk=>
   have A:k<s.size:=by omega
   have I:(k:Int)<(s.size:Int):=by omega
   have J:IntKind.i64.wrap ((k:Int)+1)=(k:Int)+1:=IntWalk.i64_in _ (by omega);obtain⟨b,E⟩:∃b,xG (bz s.data.toList k)=b:=⟨_,rfl⟩
   have D:=id_any (s[k]'A).toNat;rw[nP s k A,E]at D;rw[<- nP s k A]at D;have H:=kH D
   have C:Hid (iH (fun i=>xG (bz s.data.toList i)) s.data.toList s.size 0=if b=true then iH (fun i=>xG (bz s.data.toList i)) s.data.toList gk (k+1) else k):=kH (by
    rw[G.out,iH,bQ,E,decide_eq_true A]
    simp)
   clear D G E;cases b
   ·go_wp2_with (go_at_call 94;refine(H.out _).mono ?_;rintro e w' ⟨rfl,rfl⟩)
    go_ret
    exact⟨by rw[C.out];rfl,rfl⟩
   ·go_wp2_with (go_at_call 94;refine(H.out _).mono ?_;rintro e w' ⟨rfl,rfl⟩)
    go_roundg gk
    case measure=>omega
    case rel=>exact⟨k+1,by omega,by simp,by rw[C.out];rfl,rfl⟩
theorem Y9(s:ByteArray)(w:World)(M:s.size<=60000):
 Calls Tryz.prog 93 #[.string s,.int .i64 0,.func (Fn.func 95) #[] #[]] w fun e w'=>e= .returned (.int .i64 (iH (fun i=>fT (bz s.data.toList i)) s.data.toList s.size 0:Nat))/\w=w':=by
 go_in
 go_wp2_with fail
 go_loopg [1] s.size (fun gk s1 wr=> ∃k:Nat,k+gk=s.size/\s1= .int .i64 (k:Int)/\iH (fun i=>fT (bz s.data.toList i)) s.data.toList s.size 0=iH (fun i=>fT (bz s.data.toList i)) s.data.toList gk k/\w=wr)
 case atStart=>exact⟨0,by omega,rfl,rfl,rfl⟩
 case round=>
  obtain⟨k,L,rfl,B,rfl⟩:=hrel;have G:=kH B;clear B
  cases gk with
  | zero=>
   have F:k=s.size:=by omega
   subst F;go_wp2_with fail
   go_ret
   exact⟨by rw[G.out];rfl,rfl⟩
  | succ gk=>
   have A:k<s.size:=by omega
   have I:(k:Int)<(s.size:Int):=by omega
   have J:IntKind.i64.wrap ((k:Int)+1)=(k:Int)+1:=IntWalk.i64_in _ (by omega);obtain⟨b,E⟩:∃b,fT (bz s.data.toList k)=b:=⟨_,rfl⟩
   have D:=M4 (s[k]'A).toNat;rw[nP s k A,E]at D;rw[<- nP s k A]at D;have H:=kH D
   have C:Hid (iH (fun i=>fT (bz s.data.toList i)) s.data.toList s.size 0=if b=true then iH (fun i=>fT (bz s.data.toList i)) s.data.toList gk (k+1) else k):=kH (by
    rw[G.out,iH,bQ,E,decide_eq_true A]
    simp)
   clear D G E;cases b
   ·go_wp2_with (go_at_call 95;refine(H.out _).mono ?_;rintro e w' ⟨rfl,rfl⟩)
    go_ret
    exact⟨by rw[C.out];rfl,rfl⟩
   ·go_wp2_with (go_at_call 95;refine(H.out _).mono ?_;rintro e w' ⟨rfl,rfl⟩)
    go_roundg gk
    case measure=>omega
    case rel=>exact⟨k+1,by omega,by simp,by rw[C.out];rfl,rfl⟩
theorem BD(s:ByteArray):s.toList.isEmpty=decide (s.size=0):=by
 rw[ByteArray.toList_eq,Bool.eq_iff_iff];obtain⟨⟨l⟩⟩:=s;simp[ByteArray.size]
theorem Zr(s:ByteArray)(w:World):Calls Tryz.prog 53 #[.string s] w fun e w'=>e= .returned (.bool (rE s.data.toList))/\Below w.heap.size w w':=by
 have A:=BD s;by_cases F:s.size=0
 ·have W:s.toList.isEmpty=true:=by rw[A];simp[F]
  have B:rE s.data.toList=false:=by unfold rE;rw[bQ,F];rfl
  rw[B];clear A F B;go_in
  go_wp2_with fail
  go_ret
  exact⟨rfl,Below.refl _ _⟩
 have W:s.toList.isEmpty=false:=by rw[A];simp[F]
 by_cases G:16<s.size
 ·have H:(16:Int)<(s.size:Int):=by omega
  have B:rE s.data.toList=false:=by unfold rE;rw[bQ,decide_eq_false (p:=s.size<=16) (by omega)];simp
  rw[B];clear A F B G;go_in
  go_wp2_with fail
  go_ret
  exact⟨rfl,Below.refl _ _⟩
 have H:¬(16:Int)<(s.size:Int):=by omega
 have O:0<s.size:=by omega
 have X:(0:Int)<(s.size:Int):=by omega
 have R:s.size<=60000:=by omega
 obtain⟨J,C⟩:∃b,kI (bz s.data.toList 0)=b:=⟨_,rfl⟩
 obtain⟨S,D⟩:∃b,Jm s.data.toList=b:=⟨_,rfl⟩
 obtain⟨n,N⟩:∃n,iH (fun i=>xG (bz s.data.toList i)) s.data.toList s.size 0=n:=⟨_,rfl⟩
 have B:rE s.data.toList=(J&& !S&&decide (n=s.size)):=by
  unfold rE gM;rw[bQ,C,D,N,decide_eq_true (p:=1<=s.size) (by omega),decide_eq_true (p:=s.size<=16) (by omega)];cases J<;>simp
 rw[B];have M:=Jk (s[0]'O).toNat;rw[nP s 0 O,C,<- nP s 0 O]at M;have L:=RH s;rw[D]at L;have E:=fun w=>run_id s w R
 rw[N]at E;have V:=kH M;have U:=kH L;have I:=kH E;clear B C D N M L E G F A;go_in
 go_wp2_with fail
 refine(V.out w).mono ?_;rintro e w' ⟨rfl,rfl⟩;cases J
 ·go_wp2_with fail
  go_ret
  exact⟨rfl,Below.refl _ _⟩
 go_wp2_with fail
 refine(U.out w).mono ?_;rintro e Y ⟨rfl,T⟩;cases S
 case true=>
  go_wp2_with fail
  go_ret
  exact⟨rfl,T⟩
 go_wp2_with fail
 refine(I.out Y).mono ?_;rintro e w' ⟨rfl,rfl⟩;go_wp2_with fail
 go_ret
 refine⟨bH ?_,T⟩;rw[Bool.eq_iff_iff];simp;omega
theorem numM_run:∀(s:bB) (n k:Nat) (t:bB),t=s.drop k->k<=s.length->(yG t n).isSome=decide (iH (fun i=>fT (bz s i)) s (s.length - k) k=s.length):=by
 intro s n k t
 induction t generalizing n k with
 | nil=>
  intro h G
  have:k=s.length:=by
   have C:=congrArg List.length h;simp at C;omega
  subst this;simp[yG,iH]
 | cons c t ih=>
  intro h G
  have A:k<s.length:=by
   have C:=congrArg List.length h;simp at C;omega
  have F:s[k]? =some c/\t=s.drop (k+1):=by
   have E:=List.drop_eq_getElem_cons A;rw[<- h]at E;injection E with h4 h5
   exact⟨by rw[h4];exact aaf A,h5⟩
  have D:bz s k=c.toNat:=by unfold bz;rw[List.getD_eq_getElem?_getD,F.1];rfl
  obtain⟨m,H⟩:∃m,s.length - k=m+1:=⟨s.length - k - 1,by omega⟩
  rw[H];unfold yG iH;rw[D,decide_eq_true A,Bool.true_and];by_cases B:fT c.toNat=true
  ·rw[if_pos B,if_pos B,ih _ (k+1) F.2 A]
   rw[show s.length - (k+1)=m by omega]
  ·rw[if_neg B,if_neg B]
   simp;omega
theorem Uv(s:ByteArray)(w:World):Calls Tryz.prog 172 #[.string s] w fun e w'=> ∃n,e= .returned (.tuple #[.int .i64 n,.bool (fV s.data.toList).isSome])/\Below w.heap.size w w':=by
 have B:=BD s;by_cases F:s.size=0
 ·have l:s.toList.isEmpty=true:=by rw[B];simp[F]
  have C:(fV s.data.toList).isSome=false:=by unfold fV;rw[bQ,F];rfl
  rw[C];clear B F C;go_in
  go_wp2_with fail
  refine bodyPost_ret (v:=.tuple #[.int .i64 0,.bool false]) (by simp[results,Tryz.results172,go_sem]) rfl ?_;exact⟨0,rfl,Below.refl _ _⟩
 have l:s.toList.isEmpty=false:=by rw[B];simp[F]
 by_cases U:9<s.size
 ·have V:(9:Int)<(s.size:Int):=by omega
  have C:(fV s.data.toList).isSome=false:=by unfold fV;rw[bQ,if_pos (.inr U)];rfl
  rw[C];clear B F C U;go_in
  go_wp2_with fail
  refine bodyPost_ret (v:=.tuple #[.int .i64 0,.bool false]) (by simp[results,Tryz.results172,go_sem]) rfl ?_;exact⟨0,rfl,Below.refl _ _⟩
 have V:¬(9:Int)<(s.size:Int):=by omega
 have Z:s.size<=60000:=by omega
 obtain⟨n,T⟩:∃n,iH (fun i=>fT (bz s.data.toList i)) s.data.toList s.size 0=n:=⟨_,rfl⟩
 have C:(fV s.data.toList).isSome=decide (n=s.size):=by
  unfold fV;rw[bQ,if_neg (by omega),numM_run s.data.toList 0 0 s.data.toList rfl (Nat.zero_le _),bQ];rw[show s.size - 0=s.size from rfl,T]
 rw[C];have E:=fun w=>Y9 s w Z
 rw[T]at E
 have N:n<=s.size:=by
  rw[<- T]
  have:∀(f a:Nat),a<=s.data.toList.length->iH (fun i=>fT (bz s.data.toList i)) s.data.toList f a<=s.data.toList.length:=by
   intro f
   induction f with
   | zero=>intro a h;exact h
   | succ f ih=>
    intro a h;unfold iH;split
    ·rename_i S
     simp at S;exact ih _ (by simp;omega)
    ·exact h
  have S:=this s.size 0 (Nat.zero_le _);rw[bQ]at S;exact S
 have G:=kH E;clear C T E U F B;by_cases O:n<s.size
 ·have R:(n:Int)<(s.size:Int):=by omega
  have L:decide (n=s.size)=false:=decide_eq_false (by omega);rw[L];clear O L N;go_in
  go_wp2_with fail
  refine(G.out w).mono ?_;rintro e w' ⟨rfl,rfl⟩;go_wp2_with fail
  refine bodyPost_ret (v:=.tuple #[.int .i64 0,.bool false]) (by simp[results,Tryz.results172,go_sem]) rfl ?_;exact⟨0,rfl,Below.refl _ _⟩
 ·have R:¬(n:Int)<(s.size:Int):=by omega
  have L:decide (n=s.size)=true:=decide_eq_true (by omega);rw[L];have J:=run_bytes_of_string (P:=Tryz.prog) w 9 254 5 s Tryz.underlying9 Tryz.underlying254 Tryz.underlying5;obtain⟨W,H⟩:∃W:World,(w.drew.alloc (.cells (bytesRow s (grownCap w s.size 0 5)) 5 ((bytesRow s (grownCap w s.size 0 5)).size,(bytesRow s (grownCap w s.size 0 5)).size+1)))=W:=⟨_,rfl⟩
  rw[H]at J;have I:Below w.heap.size w W:=by rw[<- H];(repeat (first|exact Below.refl _ _|assumption|refine Below.trans ?_ (Below.mono (by assumption) (by first|omega|(simp;done)|(simp;omega)))|refine Below.alloc ?_ (by first|omega|(simp;done)|(simp;omega)) _|refine Below.setCell ?_ (by first|omega|(simp;done)|(simp;omega)) _|refine Below.drew ?_|refine aT ?_ _))
  have A:∀(k:Nat) (h:k<s.size),W.cell? ⟨w.heap.size,k,none⟩=some (.int .u8 ((s[k]'h).toNat:Int)):=by
   intro k h;have M:k<s.data.size:=h
   have j:W.heap[w.heap.size]? =some (.cells (bytesRow s (grownCap w s.size 0 5)) 5 ((bytesRow s (grownCap w s.size 0 5)).size,(bytesRow s (grownCap w s.size 0 5)).size+1)):=by
    rw[<- H];exact heap_alloc_new w.drew _
   have C:(bytesRow s (grownCap w s.size 0 5))[k]? =some (.int .u8 ((s[k]'h).toNat:Int)):=by
    unfold bytesRow;rw[Array.getElem?_append_left (by simpa using M)];simp only[Array.getElem?_map,Array.getElem?_eq_getElem M,Option.map_some];rfl
   simp[World.cell?,j,C]
  obtain⟨u,D⟩:∃c,grownCap w s.size 0 5=c:=⟨_,rfl⟩
  rw[D]at J;have b:=kH I;have x:=kH A;have g:w.heap.size<W.heap.size:=by rw[<- H];simp
  clear O L N H I A D;go_in
  go_wp2_with fail
  refine(G.out w).mono ?_;rintro e w' ⟨rfl,rfl⟩;go_wp2_with fail
  go_loopg [4,24] s.size (fun gk s4 z wr=> ∃(k:Nat) (n:Int),k+gk=s.size/\s4= .int .i64 n/\z= .int .i64 (k:Int)/\W=wr)
  case atStart=>exact⟨0,0,by omega,rfl,rfl,rfl⟩
  case round=>
   obtain⟨k,m,hk,rfl,rfl,rfl⟩:=hrel
   cases gk with
   | zero=>
    have X:k=s.size:=by omega
    subst X;go_wp2_with fail
    refine bodyPost_ret (v:=.tuple #[.int .i64 m,.bool true]) (by simp[results,Tryz.results172,go_sem]) rfl ?_;exact⟨m,rfl,b.out⟩
   | succ gk=>
    have Y:k<s.size:=by omega
    have y:(k:Int)<(s.size:Int):=by omega
    have d:IntKind.i64.wrap ((k:Int)+1)=(k:Int)+1:=IntWalk.i64_in _ (by omega);have q:=x.out k Y;go_wp2_with fail
    go_roundg gk
    case measure=>omega
    case rel=>exact⟨k+1,_,by omega,rfl,by simp,rfl⟩
def gN(i:Int):List Value:=[.int .i64 i]
theorem XG(A:Option Addr)(n c:Nat)(l:List Int)(x:Int)(w:World)(O:bU 1 gN w w.heap.size A l)(S:l.length=n)(q:n<=1000000):
 Calls Tryz.prog 167 #[.slice A n c,.int .i64 x] w fun e w'=>(∃i:Int,e= .returned (.int .i64 i)/\decide (0<=i)=l.any fun y=>decide (x=y))/\w=w':=by
 have U:=kH O;have J:=kH S;clear O S;go_in
 go_wp2_with fail
 go_loopg [8] n (fun gk s wr=> ∃k:Nat,k+gk=n/\s= .int .i64 k/\w=wr/\((l.take k).any fun y=>decide (x=y))=false)
 case atStart=>exact⟨0,by omega,rfl,rfl,rfl⟩
 case round=>
  obtain⟨k,R,rfl,rfl,T⟩:=hrel;have M:=kH R;have N:=kH T;have X:k<=n:=by omega
  clear R T;by_cases E:k<n
  ·have G:l[k]? =some (l[k]'(by rw[J.out];exact E)):=aaf _
   generalize l[k]'(by rw[J.out];exact E)=y at G
   obtain⟨V,u,I,W,D⟩:=U.out k _ G;subst I;have j:w.cell? ⟨V,u+k,none⟩=some (.int .i64 y):=by simpa using D 0 _ rfl
   have Y:(k:Int)<(n:Int):=by omega
   have z:IntKind.i64.wrap ((k:Int)+1)=(k:Int)+1:=IntWalk.i64_in _ (by omega);have L:=kH G;clear D G;by_cases C:x=y
   ·have Z:(x==y)=true:=by simp[C]
    have B:(l.any fun y=>decide (x=y))=true:=by
     rw[List.any_eq_true];exact⟨y,aan L.out,by simp[C]⟩
    have H:=kH B;clear B C;go_wp2_with fail
    go_ret
    exact⟨⟨(k:Int),rfl,by rw[H.out];simp⟩,rfl⟩
   ·have Z:(x==y)=false:=by simp[C]
    have F:((l.take (k+1)).any fun y=>decide (x=y))=false:=by
     rw[List.take_add_one,L.out,List.any_append,N.out];simp[C]
    have v:=kH F;clear F C;go_wp2_with fail
    go_roundg (gk - 1)
    case measure=>have:=M.out;omega
    case rel=>exact⟨k+1,by have:=M.out;omega,by simp,rfl,v.out⟩
  ·have B:(l.any fun y=>decide (x=y))=false:=by
    have h:=N.out;rw[List.take_of_length_le (by rw[J.out];omega)]at h;exact h
   have H:=kH B;clear B;go_wp2_with fail
   go_ret
   exact⟨⟨-1,rfl,by rw[H.out];rfl⟩,rfl⟩
theorem Qb(A:Option Addr)(n c:Nat)(l:List Int)(x:Int)(w:World)(B:bU 1 gN w w.heap.size A l)(C:l.length=n)(F:n<=1000000):
 Calls Tryz.prog 96 #[.slice A n c,.int .i64 x] w fun e w'=>e= .returned (.bool (l.any fun y=>decide (x=y)))/\w=w':=by
 have D:=kH (XG A n c l x w B C F);clear B C;go_in
 go_wp2_with fail
 refine D.out.mono ?_;rintro e w' ⟨⟨i,rfl,E⟩,rfl⟩;go_wp2_with fail
 go_ret
 exact⟨bH (by rw[<- E]),rfl⟩
theorem XF(A:Option Addr)(n c:Nat)(l:List ByteArray)(x:ByteArray)(w:World)(R:bU 1 bN w w.heap.size A l)(T:l.length=n)(f:n<=1000000):
 Calls Tryz.prog 87 #[.slice A n c,.string x] w fun e w'=>(∃i:Int,e= .returned (.int .i64 i)/\decide (0<=i)=kJ l x)/\w=w':=by
 have W:=kH R;have J:=kH T;clear R T;go_in
 go_wp2_with fail
 go_loopg [8] n (fun gk s wr=> ∃k:Nat,k+gk=n/\s= .int .i64 k/\w=wr/\kJ (l.take k) x=false)
 case atStart=>exact⟨0,by omega,rfl,rfl,rfl⟩
 case round=>
  obtain⟨k,S,rfl,rfl,U⟩:=hrel;have L:=kH S;have N:=kH U;have Z:k<=n:=by omega
  clear S U;by_cases E:k<n
  ·have C:l[k]? =some (l[k]'(by rw[J.out];exact E)):=aaf _
   generalize l[k]'(by rw[J.out];exact E)=y at C
   obtain⟨X,g,H,Y,D⟩:=W.out k _ C;subst H;have d:w.cell? ⟨X,g+k,none⟩=some (.string y):=by simpa using D 0 _ rfl
   have z:(k:Int)<(n:Int):=by omega
   have u:IntKind.i64.wrap ((k:Int)+1)=(k:Int)+1:=IntWalk.i64_in _ (by omega)
   have F:kJ (l.take (k+1)) x=(y.toList==x.toList):=by
    have O:=N.out;unfold kJ at O⊢;rw[List.take_add_one,C,List.any_append,O];simp
   have V:=kH C;have j:=kH F;obtain⟨q,I⟩:∃q,(y.toList==x.toList)=q:=⟨_,rfl⟩
   have v:(x.toList==y.toList)=q:=by rw[<- I,Bool.eq_iff_iff];simp only[beq_iff_eq];exact eq_comm
   have M:=kH I;clear D C F I;cases q
   ·go_wp2_with fail
    go_roundg (gk - 1)
    case measure=>have:=L.out;omega
    case rel=>exact⟨k+1,by have:=L.out;omega,by simp,rfl,by rw[j.out];exact M.out⟩
   ·have B:kJ l x=true:=by
     unfold kJ;rw[List.any_eq_true];exact⟨y,aan V.out,M.out⟩
    have G:=kH B;clear B;go_wp2_with fail
    go_ret
    exact⟨⟨(k:Int),rfl,by rw[G.out];simp⟩,rfl⟩
  ·have B:kJ l x=false:=by
    have h:=N.out;rw[List.take_of_length_le (by rw[J.out];omega)]at h;exact h
   have G:=kH B;clear B;go_wp2_with fail
   go_ret
   exact⟨⟨-1,rfl,by rw[G.out];rfl⟩,rfl⟩
theorem FL(A:Option Addr)(n c:Nat)(l:List ByteArray)(x:ByteArray)(w:World)(B:bU 1 bN w w.heap.size A l)(C:l.length=n)(F:n<=1000000):
 Calls Tryz.prog 46 #[.slice A n c,.string x] w fun e w'=>e= .returned (.bool (kJ l x))/\w=w':=by
 have D:=kH (XF A n c l x w B C F);clear B C;go_in
 go_wp2_with fail
 refine D.out.mono ?_;rintro e w' ⟨⟨i,rfl,E⟩,rfl⟩;go_wp2_with fail
 go_ret
 exact⟨bH (by rw[<- E]),rfl⟩
def Ue(fn:Nat):Prop:=∀(args:Array Value) (w:World),(callFunc fn args).run Tryz.prog w= .ok (.enter fn args) w
def KC(w w':World):Prop:=∀(g:Nat) (cs:Array Value) (ty:TypeId) (fr:Nat×Nat),w.heap[g]? =some (.cells cs ty fr)->w'.heap[g]? =w.heap[g]?
theorem KC.trans{a b c:World}(h:KC a b)(k:KC b c):KC a c:=fun g A D B C=>by
 have e:=h g A D B C;exact(k g A D B (e.trans C)).trans e
theorem KC.of_below{w w':World}(A:Below w.heap.size w w'):KC w w':=fun g _ _ _ B=>A.block g (aae.1 B).1
theorem KC.blk{w w':World}{g:Nat}{B:TypeId}{A:Array Value}(h:KC w w')(C:aj w g B A):aj w' g B A:=aj.keep C (h g A B (0,0) C)
theorem KC.cell{w w':World}(h:KC w w'){b o:Nat}{v:Value}(A:w.cell? ⟨b,o,none⟩=some v):w'.cell? ⟨b,o,none⟩=some v:=by
 unfold World.cell? at A⊢
 cases B:w.heap[b]? with
 | none=>rw[B]at A;cases A
 | some ob=>
  cases ob with
  | cells cs ty fr=>
   have:=h b cs ty fr B;simp only at A⊢;rw[this,B];rw[B]at A;exact A
  | _=>rw[B]at A;cases A
theorem KC.lt{w w':World}(h:KC w w'){b o:Nat}{v:Value}(B:w.cell? ⟨b,o,none⟩=some v):b<w'.heap.size:=by
 have:=h.cell B;unfold World.cell? at this;rcases Nat.lt_or_ge b w'.heap.size with A|A
 ·exact A
 ·simp[Array.getElem?_eq_none A]at this
theorem bU.kc{E:Type}{size:Nat}{cells:E->List Value}{w w':World}{B:Nat}{A:Option Addr}{l:List E}(h:bU size cells w B A l)(J:KC w w'):bU size cells w' B A l:=by
 intro k c C;obtain⟨b,D,F,G,H⟩:=h k c C;exact⟨b,D,F,G,fun j v I=>J.cell (H j v I)⟩
def jE(w:World)(v:Value)(p:Int->Bool):Prop:=
 ∃fn cap,v= .func (Fn.func fn) #[] cap/\Ue fn/\∀(k:Int) (w':World),KC w w'->w.heap.size<=w'.heap.size->Calls Tryz.prog fn (#[.int .i64 k]++cap) w' fun e w''=>e= .returned (.bool (p k))/\Below w'.heap.size w' w''
def pg(w:World)(v:Value)(p:ByteArray->Bool):Prop:=
 ∃fn cap,v= .func (Fn.func fn) #[] cap/\Ue fn/\∀(s:ByteArray) (w':World),KC w w'->w.heap.size<=w'.heap.size->Calls Tryz.prog fn (#[.string s]++cap) w' fun e w''=>e= .returned (.bool (p s))/\Below w'.heap.size w' w''
theorem jE.kc{w w':World}{v:Value}{p:Int->Bool}(h:jE w v p)(I:KC w w')(J:w.heap.size<=w'.heap.size):jE w' v p:=by
 obtain⟨E,A,F,G,H⟩:=h;exact⟨E,A,F,G,fun k D B C=>H k D (I.trans B) (aac J C)⟩
theorem pg.kc{w w':World}{v:Value}{p:ByteArray->Bool}(h:pg w v p)(I:KC w w')(J:w.heap.size<=w'.heap.size):pg w' v p:=by
 obtain⟨E,A,F,G,H⟩:=h;exact⟨E,A,F,G,fun s D B C=>H s D (I.trans B) (aac J C)⟩
theorem jE.below{w w':World}{v:Value}{p:Int->Bool}(h:jE w v p)(A:Below w.heap.size w w'):jE w' v p:=h.kc (KC.of_below A) A.size
end Go.Proofs.YtoepemlnlpamlaaGreat
