/- The law NamesBack holds for every text and every number: it returns true, and its arguments read as before. No condition. Part 17: AMap AMapW LexN LexO Shp1. -/
import Derived.Maps.RangeRun
import Derived.Maps.Own
import Derived.Laws.IdiomStrings
import Derived.Test.YtoepemlnlpamlaaGreatBakk01
import Derived.Test.YtoepemlnlpamlaaGreatBakk03
import Derived.Test.YtoepemlnlpamlaaGreatBakk16
set_option maxRecDepth 100000
set_option maxHeartbeats 4000000
namespace Go.Proofs.YtoepemlnlpamlaaGreat
open Go.RowKit
open Go.ChangeMaps (setBlock)
def l5{K:Type}[DecidableEq K](k:K):List (K×Value)->Nat->Option (Nat×Value)
 | [],_=>none
 | x::m,i=>if k=x.1 then some (i,x.2) else l5 k m (i+1)
def ng{K:Type}[DecidableEq K](m:List (K×Value))(k:K):Option Value:=(l5 k m 0).map (·.2)
structure om (K:Type) [DecidableEq K] where
 pX:K->Value
 desc:TypeDesc
 same:∀k j,Instr.sameNow desc (pX k) (pX j)=some (decide (k=j))
 check:∀(P:Program) (kt:TypeId) (b:Bool) (n:Nat) (k:K) (w:World),P.underlying kt=some desc->(Instr.checkKey b (n+1) kt (pX k)).run P w= .ok () w
 bits:∀k,Instr.sameBits 10000 (pX k) (pX k)=true
theorem X6(k j:ByteArray):(k==j)=decide (k=j):=by
 obtain⟨a⟩:=k;obtain⟨b⟩:=j;show(a==b)=_;rw[Bool.eq_iff_iff];simp
def jg:om ByteArray where
 pX:=.string
 desc:=.string
 same k j:=by simp[Instr.sameNow,X6]
 check P kt b n k w h:=by simp[Instr.checkKey,run_underlying h]
 bits k:=by simp[Instr.sameBits,X6]
def kF:om Int where
 pX:=.int .i64
 desc:=.int .i64
 same k j:=by simp[Instr.sameNow];rw[Bool.eq_iff_iff];simp
 check P kt b n k w h:=by simp[Instr.checkKey,run_underlying h]
 bits k:=by simp[Instr.sameBits]
section
variable {K:Type} [DecidableEq K] {KK:om K}
theorem CJ(k:K):∀(m:List (K×Value)) (i j:Nat),l5 k m (i+j)=(l5 k m j).map fun x=>(i+x.1,x.2)
 | [],i,j=>rfl
 | x::m,i,j=>by
  unfold l5;by_cases h:k=x.1
  ·simp[h]
  ·rw[if_neg h,if_neg h,Nat.add_assoc,CJ k m i (j+1)]
theorem KG(k:K):∀(es:List MapEntry) (m:List (K×Value)) (i:Nat),es.map (fun e=>(e.key,e.val))=m.map (fun x=>(KK.pX x.1,x.2))->Instr.findNow KK.desc (KK.pX k) es i=some (l5 k m i)
 | [],m,i,h=>by
  cases m with
  | nil=>rfl
  | cons x m=>simp at h
 | e::es,m,i,h=>by
  cases m with
  | nil=>simp at h
  | cons x m=>
   simp only[List.map_cons,List.cons.injEq,Prod.mk.injEq]at h;obtain⟨⟨h1,h2⟩,h3⟩:=h;unfold Instr.findNow l5;rw[h1,KK.same];by_cases hk:k=x.1
   ·simp[hk,h2]
   ·simp only[hk,decide_false,if_false]
    exact KG k es m (i+1) h3
def aZ(KK:om K)(w:World)(r:Nat)(m:List (K×Value)):Prop:=
 ∃es clock,w.heap[r]? =some (.map es clock)/\es.toList.map (fun e=>(e.key,e.val))=m.map (fun x=>(KK.pX x.1,x.2))/\(∀e∈es.toList,e.born<clock)/\(es.toList.map (·.born)).Nodup
variable {w w':World}{r:Nat}{m:List (K×Value)}
theorem aZ.keep(h:aZ KK w r m)(hk:w'.heap[r]? =w.heap[r]?):aZ KK w' r m:=by
 obtain⟨es,clock,h1,h2⟩:=h;exact⟨es,clock,hk.trans h1,h2⟩
theorem aZ.lt(h:aZ KK w r m):r<w.heap.size:=by
 obtain⟨es,clock,h1,_⟩:=h;exact(aaG.1 h1).1
theorem aZ.alloc(h:aZ KK w r m)(o:Obj):aZ KK (w.alloc o) r m:=h.keep (Below.heap_alloc w o r h.lt)
theorem aZ.drew(h:aZ KK w r m):aZ KK w.drew r m:=h
theorem aZ.drewN(h:aZ KK w r m)(n:Nat):aZ KK (w.drewN n) r m:=h
theorem aZ.setCell(h:aZ KK w r m){p:Addr}(hp:r≠p.block)(u:Value):aZ KK (w.setCell p u) r m:=h.keep (Below.heap_setCell w p u r hp)
theorem aZ.below{B:Nat}(h:aZ KK w r m)(hb:Below B w w')(hg:r<B):aZ KK w' r m:=h.keep (hb.block r hg)
theorem aZ.since{S:Nat->Prop}(h:aZ KK w r m)(hs:az S w w')(hg:¬S r):aZ KK w' r m:=h.keep (hs.block r h.lt hg)
theorem aZ.made(w:World):aZ KK (w.alloc (.map #[] 0)) w.heap.size []:=⟨#[],0,heap_alloc_new w _,rfl,by simp,by simp⟩
variable {P:Program}{t kt et:TypeId}
theorem uh(hk:P.underlying kt=some KK.desc)(k:K)(es:List MapEntry)(h:es.map (fun e=>(e.key,e.val))=m.map (fun x=>(KK.pX x.1,x.2)))(w:World):
 (Instr.findKey kt (KK.pX k) es).run P w= .ok (l5 k m 0) w:=by
 simp[Instr.findKey,run_underlying hk,KG k es m 0 h]
theorem uU(ht:P.underlying t=some (.map kt et))(hk:P.underlying kt=some KK.desc){z:Value}(hz:∀w,(zeroValue et).run P w= .ok z w)(h:aZ KK w r m)(k:K):
 (Instr.lookup t (.map (some r)) (KK.pX k) false).run P w= .ok ((ng m k).getD z) w:=by
 obtain⟨es,clock,h1,h2,h3⟩:=h;simp[Instr.lookup,run_underlying ht,MapKept.run_getObj_map h1,KK.check _ _ _ _ _ _ hk,uh hk k es.toList h2];unfold ng
 cases l5 k m 0 with
 | none=>simp[hz]
 | some x=>simp
theorem Ay(ht:P.underlying t=some (.map kt et))(hk:P.underlying kt=some KK.desc){z:Value}(hz:∀w,(zeroValue et).run P w= .ok z w)(h:aZ KK w r m)(k:K):
 (Instr.lookup t (.map (some r)) (KK.pX k) true).run P w= .ok (.tuple #[(ng m k).getD z,.bool (ng m k).isSome]) w:=by
 obtain⟨es,clock,h1,h2,h3⟩:=h;simp[Instr.lookup,run_underlying ht,MapKept.run_getObj_map h1,KK.check _ _ _ _ _ _ hk,uh hk k es.toList h2];unfold ng
 cases l5 k m 0 with
 | none=>simp[hz]
 | some x=>simp
def o5(m:List (K×Value))(k:K)(v:Value):List (K×Value):=
 match l5 k m 0 with
 | none=>m++[(k,v)]
 | some (i,_)=>m.modify i fun _=>(k,v)
theorem FV(k:K):∀(m:List (K×Value)) (j i:Nat) (v:Value),l5 k m j=some (i,v)->∃n,i=j+n/\m[n]? =some (k,v)
 | [],j,i,v,h=>by cases h
 | x::m,j,i,v,h=>by
  unfold l5 at h;by_cases hk:k=x.1
  ·rw[if_pos hk]at h
   cases h
   exact⟨0,rfl,by rw[hk];rfl⟩
  ·rw[if_neg hk]at h
   obtain⟨n,h1,h2⟩:=FV k m (j+1) i v h;exact⟨n+1,by omega,by simpa using h2⟩
theorem vZ{α β:Type}(f:α->β)(g:α->α)(g':β->β)(h:∀x,f (g x)=g' (f x)):∀(l:List α) (i:Nat),(l.modify i g).map f=(l.map f).modify i g'
 | [],i=>by simp
 | x::l,0=>by simp[List.modify_zero_cons,h]
 | x::l,i+1=>by simp[List.modify_succ_cons,vZ f g g' h l i]
theorem fe(ht:P.underlying t=some (.map kt et))(hk:P.underlying kt=some KK.desc)(h:aZ KK w r m)(k:K)(v:Value):
 ∃w2,(Instr.mapUpdate t (.map (some r)) (KK.pX k) v).run P w= .ok () w2/\aZ KK w2 r (o5 m k v)/\w.grownBy w2 (some r)/\w2.heap.size=w.heap.size:=by
 obtain⟨es,clock,h1,h2,h3,h4⟩:=h;have hlt:r<w.heap.size:=(aaG.1 h1).1
 have hgr:∀o:Obj,w.grownBy { w with heap:=w.heap.setIfInBounds r o } (some r):=fun o=>
  ⟨rfl,rfl,rfl,by simp,fun i _ hi=>by simp[Array.getElem?_setIfInBounds];intro e;exact absurd (by rw[e]) hi⟩
 have hat:∀o:Obj,({ w with heap:=w.heap.setIfInBounds r o }:World).heap[r]? =some o:=fun o=>by simp[hlt]
 unfold o5
 cases hx:l5 k m 0 with
 | none=>
  refine⟨{ w with heap:=w.heap.setIfInBounds r (.map (es.push { key:=KK.pX k,val:=v,born:=clock }) (clock+1)) },?_,⟨_,_,hat _,?_,?_,?_⟩,hgr _,by simp⟩
  ·simp[Instr.mapUpdate,run_underlying ht,MapKept.run_getObj_map h1,KK.check _ _ _ _ _ _ hk,uh hk k es.toList h2,hx,MapKept.run_setObj_map _ h1]
  ·simp[h2]
  ·intro e he
   simp at he;rcases he with he|rfl
   ·have:=h3 e (by simpa using he)
    omega
   ·simp
  ·simp only[Array.toList_push,List.map_append,List.map_cons,List.map_nil]
   rw[List.nodup_append];refine⟨h4,by simp,fun a ha b hb=>?_⟩;simp at hb;subst hb;simp only[List.mem_map]at ha;obtain⟨e,he,rfl⟩:=ha;have:=h3 e he;omega
 | some x=>
  obtain⟨i,v0⟩:=x;obtain⟨n,hn,M5⟩:=FV k m 0 i v0 hx;have hin:i=n:=by omega
  subst hin;have hen:(es.toList.map fun e=>(e.key,e.val))[i]? =some (KK.pX k,v0):=by rw[h2];simp[M5]
  rw[List.getElem?_map]at hen
  cases hei:es.toList[i]? with
  | none=>rw[hei]at hen;cases hen
  | some e0=>
   rw[hei]at hen;simp at hen;have hei':es[i]? =some e0:=by simpa using hei
   refine⟨{ w with heap:=w.heap.setIfInBounds r (.map (es.modify i fun e=> { e with key:=KK.pX k,val:=v }) clock) },?_,⟨_,_,hat _,?_,?_,?_⟩,hgr _,by simp⟩
   ·simp[Instr.mapUpdate,run_underlying ht,MapKept.run_getObj_map h1,KK.check _ _ _ _ _ _ hk,uh hk k es.toList h2,hx,MapKept.run_setObj_map _ h1,Instr.keyThatStays,hei',hen.1,KK.bits]
   ·rw[Array.toList_modify,vZ (fun e:MapEntry=>(e.key,e.val)) _ (fun _=>(KK.pX k,v)) (fun _=>rfl),h2,vZ (fun x:K×Value=>(KK.pX x.1,x.2)) (fun _=>(k,v)) (fun _=>(KK.pX k,v)) (fun _=>rfl)]
   ·have hb:=vZ (fun e:MapEntry=>e.born) (fun e=> { e with key:=KK.pX k,val:=v }) id (fun _=>rfl) es.toList i
    intro e he;rw[Array.toList_modify]at he;have hm:e.born∈((es.toList.modify i fun e=> { e with key:=KK.pX k,val:=v }).map fun e:MapEntry=>e.born):=List.mem_map.2 ⟨e,he,rfl⟩;rw[hb]at hm;simp at hm;obtain⟨e1,he1,h5⟩:=hm;rw[<- h5];exact h3 e1 (by simpa using he1)
   ·rw[Array.toList_modify,vZ (fun e:MapEntry=>e.born) (fun e=> { e with key:=KK.pX k,val:=v }) id (fun _=>rfl)]
    simpa using h4
def mD(KK:om K)(w:World)(r b:Nat)(m:List (K×Value))(left:List (Value×Value)):Prop:=
 ∃es clock seen c0,w.heap[r]? =some (.map es clock)/\es.toList.map (fun e=>(e.key,e.val))=m.map (fun x=>(KK.pX x.1,x.2))/\(∀e∈es.toList,e.born<clock)/\(es.toList.map (·.born)).Nodup /\
  w.heap[b]? =some (.mapIter (some r) clock seen c0)/\clock<=c0/\left=(leftOf es seen).toList.map fun e=>(e.key,e.val)
theorem mD.nY{b:Nat}{left:List (Value×Value)}(h:mD KK w r b m left):aZ KK w r m:=by
 obtain⟨es,clock,seen,c0,h1,h2,h3,h4,-⟩:=h;exact⟨es,clock,h1,h2,h3,h4⟩
theorem mD.keep{b:Nat}{left:List (Value×Value)}(h:mD KK w r b m left)(hr:w'.heap[r]? =w.heap[r]?)(hb:w'.heap[b]? =w.heap[b]?):mD KK w' r b m left:=by
 obtain⟨es,clock,seen,c0,h1,h2,h3,h4,h5,h6⟩:=h;exact⟨es,clock,seen,c0,hr.trans h1,h2,h3,h4,hb.trans h5,h6⟩
theorem zI(ht:P.underlying t=some (.map kt et))(h:aZ KK w r m):
 ∃w',(Instr.range t (.map (some r))).run P w= .ok (.pointer (some ⟨w.heap.size,0,none⟩)) w'/\mD KK w' r w.heap.size m (m.map fun x=>(KK.pX x.1,x.2))/\Below w.heap.size w w'/\w'.heap.size=w.heap.size+1:=by
 obtain⟨es,clock,h1,h2,h3,h4⟩:=h;refine⟨_,run_range_map w t kt et r es clock ht h1,⟨es,clock,#[],clock,?_,h2,h3,h4,heap_alloc_new w _,aaD _,?_⟩,af _ _,by simp⟩
 ·exact(Below.heap_alloc w _ r (aaG.1 h1).1).trans h1
 ·unfold leftOf
  rw[<- h2,Array.toList_filter];congr 1
  exact(List.filter_eq_self.2 fun e _=>by simp).symm
theorem BV:∀(l:List MapEntry) (e:MapEntry),(l.map (·.born)).Nodup->e∈l->l.Perm (e::l.filter fun x=> !(x.born==e.born))
 | [],e,_,h=>by cases h
 | x::l,e,hn,h=>by
  simp only[List.map_cons,List.nodup_cons]at hn;rcases List.mem_cons.1 h with rfl|h
  ·have hf:(l.filter fun x=> !(x.born==e.born))=l:=by
    rw[List.filter_eq_self];intro y hy;simp;intro h1;exact hn.1 (by rw[<- h1];exact List.mem_map.2 ⟨y,hy,rfl⟩)
   simp[hf]
  ·have hne:x.born≠e.born:=by
    intro h1;exact hn.1 (by rw[h1];exact List.mem_map.2 ⟨e,h,rfl⟩)
   have:=BV l e hn.2 h;have hx:(!(x.born==e.born))=true:=by simp[hne]
   rw[List.filter_cons,if_pos hx];exact(List.Perm.cons x this).trans (List.Perm.swap e x _)
theorem Bl{b:Nat}{left:List (Value×Value)}(ty:TypeId)(h:mD KK w r b m left)(hne:r≠b):
 (left=[]/\(Instr.next (.pointer (some ⟨b,0,none⟩)) false ty).run P w= .ok (.tuple #[.bool false]) w) \/
 ∃k v left' w',left.Perm ((k,v)::left')/\(k,v)∈(m.map fun x=>(KK.pX x.1,x.2))/\(Instr.next (.pointer (some ⟨b,0,none⟩)) false ty).run P w= .ok (.tuple #[.bool true,k,v]) w' /\
  mD KK w' r b m left'/\az (fun g=>g=b) w w'/\w'.heap.size=w.heap.size/\(Instr.entry (.pointer (some ⟨b,0,none⟩))).run P w'= .ok (.tuple #[k,v]) w':=by
 obtain⟨es,clock,seen,c0,h1,h2,h3,h4,h5,h6,h7⟩:=h;rcases run_next_at (P:=P) w ty b r clock c0 seen es clock h5 h1 h3 h6 with⟨h8,h9⟩| ⟨e,he,w1,hw1,hrun⟩
 ·left
  refine⟨?_,h9⟩;rw[h7];have:(leftOf es seen)= #[]:=Array.eq_empty_of_size_eq_zero h8;rw[this];rfl
 ·right
  have hlt:b<w.heap.size:=(aaG.1 h5).1
  have hs1:az (fun g=>g=b) w w1/\w1.heap=w.heap:=by
   rcases hw1 with rfl|rfl
   ·exact⟨az.refl _ _,rfl⟩
   ·exact⟨(az.refl _ _).drew,rfl⟩
  have hheap:∀g o,g≠b->(setBlock w1 b o).heap[g]? =w.heap[g]? :=by
   intro g o hg;simp[setBlock,hs1.2,Ne.symm hg]
  have hmem:=mem_left he;have hr2:(setBlock w1 b (.mapIter (some r) clock (seen.push e.born) clock)).heap[r]? =some (.map es clock):=(hheap r _ hne).trans h1
  have hb2:(setBlock w1 b (.mapIter (some r) clock (seen.push e.born) clock)).heap[b]? =some (.mapIter (some r) clock (seen.push e.born) clock):=by
   simp[setBlock,hs1.2,hlt]
  refine⟨e.key,e.val,(leftOf es (seen.push e.born)).toList.map fun e=>(e.key,e.val),_,?_,?_,hrun,⟨es,clock,seen.push e.born,clock,hr2,h2,h3,h4,hb2,aaD _,rfl⟩,?_,?_,run_entry_at _ b r clock seen es clock e hb2 hr2 hmem.1 h4⟩
  ·rw[h7]
   have hp:=BV (leftOf es seen).toList e (by
    unfold leftOf;rw[Array.toList_filter]
    exact List.Nodup.sublist (List.Sublist.map _ List.filter_sublist) h4) he
   have hl:(leftOf es (seen.push e.born)).toList=(leftOf es seen).toList.filter fun x=> !(x.born==e.born):=by
    unfold leftOf;rw[Array.toList_filter,Array.toList_filter,List.filter_filter];congr 1
    funext x
    rw[contains_push];cases seen.contains x.born<;>cases x.born==e.born<;>rfl
   rw[hl];exact hp.map _
  ·rw[<- h2]
   exact List.mem_map.2 ⟨e,hmem.1,rfl⟩
  ·exact⟨hs1.1.os,hs1.1.tape,hs1.1.output,by simp[setBlock,hs1.2],fun g _ hg=>hheap g _ hg⟩
  ·simp[setBlock,hs1.2]
end
section
variable {K:Type} [DecidableEq K] {KK:om K}{P:Program}(w:World) {ops:Array Oper}{rest:List Oper}{o:Oper}{a:Act}{Q:Exit->Act->World->Prop}
theorem zA(hg:o.guard=none)(m x v:Operand)(t:TypeId)(hop:o.op=Op.insert t m x v)(kt et:TypeId)(ht:P.underlying t=some (.map kt et))(hk:P.underlying kt=some KK.desc)(r:Nat)(l:List (K×Value))(key:K)(val:Value)
 (hm:a.eval m= .map (some r)) (hx:a.eval x=KK.pX key) (hv:a.eval v=val) (h:aZ KK w r l) {B:Nat}{w0:World}(hb:Below B w0 w) (hB:B<=r)
 (hK:∀w',aZ KK w' r (o5 l key val)->Below B w0 w'->wpList P ops Q rest (a.put o.dst undef) w'):wpList P ops Q (o::rest) a w:=by
 refine wpList_plain hg fun K' hK'=>?_
 obtain⟨w',hrun,h1,h2,h3⟩:=fe ht hk h key val;unfold Oper.wp;simp[execOp,hop,hm,hx,hv,hrun,Result.andThen];exact hK' _ _ (hK w' h1 (hb.trans (((az.refl (fun g=>B<=g) w).grown h2 (fun k hk=>by cases hk;exact .inl hB)).toBelow (Nat.le_of_lt (Nat.lt_of_le_of_lt hB h.lt)) (fun g hg=>hg))))
end
theorem J3(v:Value)(x:ByteArray):∀(ws:List aP) (i:Nat),(l5 x (ws.map fun b=>(aU b,v)) i).map (·.2)=if rV ws x.data.toList then some v else none
 | [],i=>rfl
 | b::ws,i=>by
  unfold rV;simp only[List.map_cons,l5,List.any_cons];by_cases h:x=aU b
  ·rw[if_pos h]
   have:b=x.data.toList:=by rw[h];simp[aU]
   simp[this]
  ·rw[if_neg h]
   have:decide (b=x.data.toList)=false:=by
    apply decide_eq_false
    rintro rfl;exact h (by cases x;simp[aU])
   have ih:=J3 v x ws (i+1);unfold rV at ih;rw[ih];simp[this]
theorem RN(v:Value)(ws:List aP)(x:ByteArray):ng (ws.map fun b=>(aU b,v)) x=if rV ws x.data.toList then some v else none:=J3 v x ws 0
theorem GI(c:Nat)(w:World):Calls Tryz.prog 91 #[.int .u8 (c:Int)] w fun e w'=>e= .returned (.bool (kJ c))/\w=w':=by
 by_cases h1:97<=c
 ·have h1':(97:Int)<=(c:Int):=by omega
  by_cases h2:c<=122
  ·have h2':(c:Int)<=122:=by omega
   go_enter Tryz.func91,Tryz.ntmps91
   go_wp2
   go_ret
   exact⟨bH (by simp[kJ,h1,h2]),rfl⟩
  ·have h2':¬(c:Int)<=122:=by omega
   go_enter Tryz.func91,Tryz.ntmps91
   go_wp2
   go_ret
   exact⟨bH (by simp[kJ,h1,h2]),rfl⟩
 ·have h1':¬(97:Int)<=(c:Int):=by omega
  go_enter Tryz.func91,Tryz.ntmps91
  go_wp2
  go_ret
  exact⟨bH (by simp[kJ,h1]),rfl⟩
theorem KL(c:Nat)(w:World):Calls Tryz.prog 95 #[.int .u8 (c:Int)] w fun e w'=>e= .returned (.bool (fB c))/\w=w':=by
 by_cases h1:48<=c
 ·have h1':(48:Int)<=(c:Int):=by omega
  by_cases h2:c<=57
  ·have h2':(c:Int)<=57:=by omega
   go_enter Tryz.func95,Tryz.ntmps95
   go_wp2
   go_ret
   exact⟨bH (by simp[fB,h1,h2]),rfl⟩
  ·have h2':¬(c:Int)<=57:=by omega
   go_enter Tryz.func95,Tryz.ntmps95
   go_wp2
   go_ret
   exact⟨bH (by simp[fB,h1,h2]),rfl⟩
 ·have h1':¬(48:Int)<=(c:Int):=by omega
  go_enter Tryz.func95,Tryz.ntmps95
  go_wp2
  go_ret
  exact⟨bH (by simp[fB,h1]),rfl⟩
theorem id_any(c:Nat)(w:World):Calls Tryz.prog 94 #[.int .u8 (c:Int)] w fun e w'=>e= .returned (.bool (wm c))/\w=w':=by
 have hl:=GI c;have hd:=KL c;obtain⟨b1,hb1⟩:∃b,kJ c=b:=⟨_,rfl⟩
 obtain⟨b2,hb2⟩:∃b,fB c=b:=⟨_,rfl⟩
 have hr:wm c=(b1 || b2 || decide (c=95)):=by unfold wm;rw[hb1,hb2]
 rw[hb1]at hl;rw[hb2]at hd;have HL:=kH hl;have HD:=kH hd;have e1:((c:Int)==95)=decide (c=95):=by rw[Bool.eq_iff_iff];simp;omega
 obtain⟨b3,hb3⟩:∃b,decide (c=95)=b:=⟨_,rfl⟩
 rw[hb3]at e1 hr;rw[hr];clear hl hd hb1 hb2 hb3 hr;go_enter Tryz.func94,Tryz.ntmps94
 go_wp2_with fail
 refine(HL.out w).mono ?_;rintro e w' ⟨rfl,rfl⟩;cases b1
 case true=>
  go_wp2_with fail
  go_ret
  exact⟨bH (by simp),rfl⟩
 go_wp2_with fail
 refine(HD.out w).mono ?_;rintro e w' ⟨rfl,rfl⟩;cases b2
 case true=>
  go_wp2_with fail
  go_ret
  exact⟨bH (by simp),rfl⟩
 go_wp2_with fail
 go_ret
 exact⟨bH (by simp),rfl⟩
def U4:List (ByteArray×Value):=Pp.map fun b=>(aU b,.bool true)
theorem Ps(w:World):Calls Tryz.prog 166 #[] w fun e w'=>e= .returned (.map (some w.heap.size))/\aZ jg w' w.heap.size U4/\Below w.heap.size w w':=by
 have hmm:=@run_makeMap Tryz.prog;have hmade:aZ jg (w.alloc (.map #[] 0)) w.heap.size []:=aZ.made w;have hbel:Below w.heap.size w (w.alloc (.map #[] 0)):=af _ _;go_enter Tryz.func166,Tryz.ntmps166
 go_wp2_with (refine zA (KK:=jg) _ rfl _ _ _ 55 rfl 9 4 Tryz.underlying55 Tryz.underlying9 w.heap.size _ _ _ rfl rfl rfl (by assumption) (by assumption) (aaD _) ?_;intro w1 hm1 hb1)
 refine bodyPost_ret (v:=.map (some w.heap.size)) (by simp[results,Tryz.results166,go_sem]) rfl ?_;refine⟨rfl,Eq.mp (congrArg (aZ jg w1 _) ?_) hm1,hb1⟩;kernel_rfl
theorem Wj(w:World):(zeroValue 4).run Tryz.prog w= .ok (.bool false) w:=by go_simp
theorem Pt(s:ByteArray)(w:World):Calls Tryz.prog 92 #[.string s] w fun e w'=>e= .returned (.bool (Ka s.data.toList))/\Below w.heap.size w w':=by
 have hlk:∀(w':World) (r:Nat),aZ jg w' r U4->(Instr.lookup 55 (.map (some r)) (.string s) false).run Tryz.prog w'= .ok (.bool (Ka s.data.toList)) w':=fun w' r h=>by
  have:=uU (P:=Tryz.prog) (KK:=jg) (t:=55) (kt:=9) (et:=4) Tryz.underlying55 Tryz.underlying9 Wj h s;rw[show ng U4 s=_ from RN (.bool true) Pp s]at this;refine Eq.trans this ?_;unfold Ka;cases rV Pp s.data.toList<;>rfl
 have HLK:=kH hlk;clear hlk;go_enter Tryz.func92,Tryz.ntmps92
 go_wp2_with fail
 refine(Ps w).mono ?_;rintro e w1 ⟨rfl,hm,hb⟩;have hl1:=HLK.out w1 _ hm;go_wp2_with fail
 go_ret
 exact⟨rfl,hb⟩
theorem run_id(s:ByteArray)(w:World)(hs:s.size<=60000):
 Calls Tryz.prog 93 #[.string s,.int .i64 0,.func (Fn.func 94) #[] #[]] w fun e w'=>e= .returned (.int .i64 (gY (fun i=>wm (bz s.data.toList i)) s.data.toList s.size 0:Nat))/\w=w':=by
 go_enter Tryz.func93,Tryz.ntmps93
 go_wp2_with fail
 go_loopg [1] s.size (fun gk s1 wr=> ∃k:Nat,k+gk=s.size/\s1= .int .i64 (k:Int)/\gY (fun i=>wm (bz s.data.toList i)) s.data.toList s.size 0=gY (fun i=>wm (bz s.data.toList i)) s.data.toList gk k/\w=wr)
 case atStart=>exact⟨0,by omega,rfl,rfl,rfl⟩
 case round=>
  obtain⟨k,hk,rfl,hrun,rfl⟩:=hrel;have xM:=kH hrun;clear hrun
  cases gk with
  | zero=>
   have hke:k=s.size:=by omega
   subst hke;go_wp2_with fail
   go_ret
   exact⟨by rw[xM.out];rfl,rfl⟩
  | succ gk=>
   have hkl:k<s.size:=by omega
   have hkl':(k:Int)<(s.size:Int):=by omega
   have hwr:IntKind.i64.wrap ((k:Int)+1)=(k:Int)+1:=IntWalk.i64_in _ (by omega);obtain⟨b,hb⟩:∃b,wm (bz s.data.toList k)=b:=⟨_,rfl⟩
   have hc:=id_any (s[k]'hkl).toNat;rw[pK s k hkl,hb]at hc;rw[<- pK s k hkl]at hc;have HC:=kH hc
   have HR2:Hid (gY (fun i=>wm (bz s.data.toList i)) s.data.toList s.size 0=if b=true then gY (fun i=>wm (bz s.data.toList i)) s.data.toList gk (k+1) else k):=kH (by
    rw[xM.out,gY,bS,hb,decide_eq_true hkl]
    simp)
   clear hc xM hb;cases b
   ·go_wp2_with (go_at_call 94;refine(HC.out _).mono ?_;rintro e w' ⟨rfl,rfl⟩)
    go_ret
    exact⟨by rw[HR2.out];rfl,rfl⟩
   ·go_wp2_with (go_at_call 94;refine(HC.out _).mono ?_;rintro e w' ⟨rfl,rfl⟩)
    go_roundg gk
    case measure=>omega
    case rel=>exact⟨k+1,by omega,by simp,by rw[HR2.out];rfl,rfl⟩
theorem WH(s:ByteArray)(w:World)(hs:s.size<=60000):
 Calls Tryz.prog 93 #[.string s,.int .i64 0,.func (Fn.func 95) #[] #[]] w fun e w'=>e= .returned (.int .i64 (gY (fun i=>fB (bz s.data.toList i)) s.data.toList s.size 0:Nat))/\w=w':=by
 go_enter Tryz.func93,Tryz.ntmps93
 go_wp2_with fail
 go_loopg [1] s.size (fun gk s1 wr=> ∃k:Nat,k+gk=s.size/\s1= .int .i64 (k:Int)/\gY (fun i=>fB (bz s.data.toList i)) s.data.toList s.size 0=gY (fun i=>fB (bz s.data.toList i)) s.data.toList gk k/\w=wr)
 case atStart=>exact⟨0,by omega,rfl,rfl,rfl⟩
 case round=>
  obtain⟨k,hk,rfl,hrun,rfl⟩:=hrel;have xM:=kH hrun;clear hrun
  cases gk with
  | zero=>
   have hke:k=s.size:=by omega
   subst hke;go_wp2_with fail
   go_ret
   exact⟨by rw[xM.out];rfl,rfl⟩
  | succ gk=>
   have hkl:k<s.size:=by omega
   have hkl':(k:Int)<(s.size:Int):=by omega
   have hwr:IntKind.i64.wrap ((k:Int)+1)=(k:Int)+1:=IntWalk.i64_in _ (by omega);obtain⟨b,hb⟩:∃b,fB (bz s.data.toList k)=b:=⟨_,rfl⟩
   have hc:=KL (s[k]'hkl).toNat;rw[pK s k hkl,hb]at hc;rw[<- pK s k hkl]at hc;have HC:=kH hc
   have HR2:Hid (gY (fun i=>fB (bz s.data.toList i)) s.data.toList s.size 0=if b=true then gY (fun i=>fB (bz s.data.toList i)) s.data.toList gk (k+1) else k):=kH (by
    rw[xM.out,gY,bS,hb,decide_eq_true hkl]
    simp)
   clear hc xM hb;cases b
   ·go_wp2_with (go_at_call 95;refine(HC.out _).mono ?_;rintro e w' ⟨rfl,rfl⟩)
    go_ret
    exact⟨by rw[HR2.out];rfl,rfl⟩
   ·go_wp2_with (go_at_call 95;refine(HC.out _).mono ?_;rintro e w' ⟨rfl,rfl⟩)
    go_roundg gk
    case measure=>omega
    case rel=>exact⟨k+1,by omega,by simp,by rw[HR2.out];rfl,rfl⟩
theorem zO(s:ByteArray):s.toList.isEmpty=decide (s.size=0):=by
 rw[ByteArray.toList_eq,Bool.eq_iff_iff];obtain⟨⟨l⟩⟩:=s;simp[ByteArray.size]
theorem MR(s:ByteArray)(w:World):Calls Tryz.prog 53 #[.string s] w fun e w'=>e= .returned (.bool (xU s.data.toList))/\Below w.heap.size w w':=by
 have hem:=zO s;by_cases h0:s.size=0
 ·have he:s.toList.isEmpty=true:=by rw[hem];simp[h0]
  have hr:xU s.data.toList=false:=by unfold xU;rw[bS,h0];rfl
  rw[hr];clear hem h0 hr;go_enter Tryz.func53,Tryz.ntmps53
  go_wp2_with fail
  go_ret
  exact⟨rfl,Below.refl _ _⟩
 have he:s.toList.isEmpty=false:=by rw[hem];simp[h0]
 by_cases h16:16<s.size
 ·have h16':(16:Int)<(s.size:Int):=by omega
  have hr:xU s.data.toList=false:=by unfold xU;rw[bS,decide_eq_false (p:=s.size<=16) (by omega)];simp
  rw[hr];clear hem h0 hr h16;go_enter Tryz.func53,Tryz.ntmps53
  go_wp2_with fail
  go_ret
  exact⟨rfl,Below.refl _ _⟩
 have h16':¬(16:Int)<(s.size:Int):=by omega
 have hp:0<s.size:=by omega
 have hp':(0:Int)<(s.size:Int):=by omega
 have hs6:s.size<=60000:=by omega
 obtain⟨b1,hb1⟩:∃b,kJ (bz s.data.toList 0)=b:=⟨_,rfl⟩
 obtain⟨b2,hb2⟩:∃b,Ka s.data.toList=b:=⟨_,rfl⟩
 obtain⟨n,hn⟩:∃n,gY (fun i=>wm (bz s.data.toList i)) s.data.toList s.size 0=n:=⟨_,rfl⟩
 have hr:xU s.data.toList=(b1&& !b2&&decide (n=s.size)):=by
  unfold xU gy;rw[bS,hb1,hb2,hn,decide_eq_true (p:=1<=s.size) (by omega),decide_eq_true (p:=s.size<=16) (by omega)];cases b1<;>simp
 rw[hr];have hl:=GI (s[0]'hp).toNat;rw[pK s 0 hp,hb1,<- pK s 0 hp]at hl;have hk:=Pt s;rw[hb2]at hk;have hrn:=fun w=>run_id s w hs6
 rw[hn]at hrn;have HL:=kH hl;have HK:=kH hk;have Q7:=kH hrn;clear hr hb1 hb2 hn hl hk hrn h16 h0 hem;go_enter Tryz.func53,Tryz.ntmps53
 go_wp2_with fail
 refine(HL.out w).mono ?_;rintro e w' ⟨rfl,rfl⟩;cases b1
 ·go_wp2_with fail
  go_ret
  exact⟨rfl,Below.refl _ _⟩
 go_wp2_with fail
 refine(HK.out w).mono ?_;rintro e w1 ⟨rfl,hb⟩;cases b2
 case true=>
  go_wp2_with fail
  go_ret
  exact⟨rfl,hb⟩
 go_wp2_with fail
 refine(Q7.out w1).mono ?_;rintro e w' ⟨rfl,rfl⟩;go_wp2_with fail
 go_ret
 refine⟨bH ?_,hb⟩;rw[Bool.eq_iff_iff];simp;omega
theorem Y5:∀(s:aP) (n k:Nat) (t:aP),t=s.drop k->k<=s.length->(xE t n).isSome=decide (gY (fun i=>fB (bz s i)) s (s.length - k) k=s.length):=by
 intro s n k t
 induction t generalizing n k with
 | nil=>
  intro h hk
  have:k=s.length:=by
   have h2:=congrArg List.length h;simp at h2;omega
  subst this;simp[xE,gY]
 | cons c t ih=>
  intro h hk
  have hkl:k<s.length:=by
   have h2:=congrArg List.length h;simp at h2;omega
  have hc:s[k]? =some c/\t=s.drop (k+1):=by
   have h3:=List.drop_eq_getElem_cons hkl;rw[<- h]at h3;injection h3 with h4 h5
   exact⟨by rw[h4];exact aaH hkl,h5⟩
  have hbz:bz s k=c.toNat:=by unfold bz;rw[List.getD_eq_getElem?_getD,hc.1];rfl
  obtain⟨m,hm⟩:∃m,s.length - k=m+1:=⟨s.length - k - 1,by omega⟩
  rw[hm];unfold xE gY;rw[hbz,decide_eq_true hkl,Bool.true_and];by_cases hd:fB c.toNat=true
  ·rw[if_pos hd,if_pos hd,ih _ (k+1) hc.2 hkl]
   rw[show s.length - (k+1)=m by omega]
  ·rw[if_neg hd,if_neg hd]
   simp;omega
theorem RJ(s:ByteArray)(w:World):Calls Tryz.prog 172 #[.string s] w fun e w'=> ∃n,e= .returned (.tuple #[.int .i64 n,.bool (je s.data.toList).isSome])/\Below w.heap.size w w':=by
 have hem:=zO s;by_cases h0:s.size=0
 ·have he:s.toList.isEmpty=true:=by rw[hem];simp[h0]
  have hr:(je s.data.toList).isSome=false:=by unfold je;rw[bS,h0];rfl
  rw[hr];clear hem h0 hr;go_enter Tryz.func172,Tryz.ntmps172
  go_wp2_with fail
  refine bodyPost_ret (v:=.tuple #[.int .i64 0,.bool false]) (by simp[results,Tryz.results172,go_sem]) rfl ?_;exact⟨0,rfl,Below.refl _ _⟩
 have he:s.toList.isEmpty=false:=by rw[hem];simp[h0]
 by_cases h9:9<s.size
 ·have h9':(9:Int)<(s.size:Int):=by omega
  have hr:(je s.data.toList).isSome=false:=by unfold je;rw[bS,if_pos (.inr h9)];rfl
  rw[hr];clear hem h0 hr h9;go_enter Tryz.func172,Tryz.ntmps172
  go_wp2_with fail
  refine bodyPost_ret (v:=.tuple #[.int .i64 0,.bool false]) (by simp[results,Tryz.results172,go_sem]) rfl ?_;exact⟨0,rfl,Below.refl _ _⟩
 have h9':¬(9:Int)<(s.size:Int):=by omega
 have hs6:s.size<=60000:=by omega
 obtain⟨n,hn⟩:∃n,gY (fun i=>fB (bz s.data.toList i)) s.data.toList s.size 0=n:=⟨_,rfl⟩
 have hr:(je s.data.toList).isSome=decide (n=s.size):=by
  unfold je;rw[bS,if_neg (by omega),Y5 s.data.toList 0 0 s.data.toList rfl (Nat.zero_le _),bS];rw[show s.size - 0=s.size from rfl,hn]
 rw[hr];have hrn:=fun w=>WH s w hs6
 rw[hn]at hrn
 have hle:n<=s.size:=by
  rw[<- hn]
  have:∀(f a:Nat),a<=s.data.toList.length->gY (fun i=>fB (bz s.data.toList i)) s.data.toList f a<=s.data.toList.length:=by
   intro f
   induction f with
   | zero=>intro a h;exact h
   | succ f ih=>
    intro a h;unfold gY;split
    ·rename_i h2
     simp at h2;exact ih _ (by simp;omega)
    ·exact h
  have h2:=this s.size 0 (Nat.zero_le _);rw[bS]at h2;exact h2
 have Q7:=kH hrn;clear hr hn hrn h9 h0 hem;by_cases hlt:n<s.size
 ·have hlt':(n:Int)<(s.size:Int):=by omega
  have hd:decide (n=s.size)=false:=decide_eq_false (by omega);rw[hd];clear hlt hd hle;go_enter Tryz.func172,Tryz.ntmps172
  go_wp2_with fail
  refine(Q7.out w).mono ?_;rintro e w' ⟨rfl,rfl⟩;go_wp2_with fail
  refine bodyPost_ret (v:=.tuple #[.int .i64 0,.bool false]) (by simp[results,Tryz.results172,go_sem]) rfl ?_;exact⟨0,rfl,Below.refl _ _⟩
 ·have hlt':¬(n:Int)<(s.size:Int):=by omega
  have hd:decide (n=s.size)=true:=decide_eq_true (by omega);rw[hd];have hcv:=run_bytes_of_string (P:=Tryz.prog) w 9 254 5 s Tryz.underlying9 Tryz.underlying254 Tryz.underlying5;obtain⟨W,hW⟩:∃W:World,(w.drew.alloc (.cells (bytesRow s (grownCap w s.size 0 5)) 5 ((bytesRow s (grownCap w s.size 0 5)).size,(bytesRow s (grownCap w s.size 0 5)).size+1)))=W:=⟨_,rfl⟩
  rw[hW]at hcv;have hbW:Below w.heap.size w W:=by rw[<- hW];(repeat (first|exact Below.refl _ _|assumption|refine Below.trans ?_ (Below.mono (by assumption) (by first|omega|(simp;done)|(simp;omega)))|refine Below.alloc ?_ (by first|omega|(simp;done)|(simp;omega)) _|refine Below.setCell ?_ (by first|omega|(simp;done)|(simp;omega)) _|refine Below.drew ?_|refine aY ?_ _))
  have hcell:∀(k:Nat) (h:k<s.size),W.cell? ⟨w.heap.size,k,none⟩=some (.int .u8 ((s[k]'h).toNat:Int)):=by
   intro k h;have hk2:k<s.data.size:=h
   have hh:W.heap[w.heap.size]? =some (.cells (bytesRow s (grownCap w s.size 0 5)) 5 ((bytesRow s (grownCap w s.size 0 5)).size,(bytesRow s (grownCap w s.size 0 5)).size+1)):=by
    rw[<- hW];exact heap_alloc_new w.drew _
   have hr:(bytesRow s (grownCap w s.size 0 5))[k]? =some (.int .u8 ((s[k]'h).toNat:Int)):=by
    unfold bytesRow;rw[Array.getElem?_append_left (by simpa using hk2)];simp only[Array.getElem?_map,Array.getElem?_eq_getElem hk2,Option.map_some];rfl
   simp[World.cell?,hh,hr]
  obtain⟨cap,hcap⟩:∃c,grownCap w s.size 0 5=c:=⟨_,rfl⟩
  rw[hcap]at hcv;have tY:=kH hbW;have HCELL:=kH hcell;have hwl:w.heap.size<W.heap.size:=by rw[<- hW];simp
  clear hlt hd hle hW hbW hcell hcap;go_enter Tryz.func172,Tryz.ntmps172
  go_wp2_with fail
  refine(Q7.out w).mono ?_;rintro e w' ⟨rfl,rfl⟩;go_wp2_with fail
  go_loopg [4,24] s.size (fun gk s4 s24 wr=> ∃(k:Nat) (n:Int),k+gk=s.size/\s4= .int .i64 n/\s24= .int .i64 (k:Int)/\W=wr)
  case atStart=>exact⟨0,0,by omega,rfl,rfl,rfl⟩
  case round=>
   obtain⟨k,m,hk,rfl,rfl,rfl⟩:=hrel
   cases gk with
   | zero=>
    have hke:k=s.size:=by omega
    subst hke;go_wp2_with fail
    refine bodyPost_ret (v:=.tuple #[.int .i64 m,.bool true]) (by simp[results,Tryz.results172,go_sem]) rfl ?_;exact⟨m,rfl,tY.out⟩
   | succ gk=>
    have hkl:k<s.size:=by omega
    have hkl':(k:Int)<(s.size:Int):=by omega
    have hwr:IntKind.i64.wrap ((k:Int)+1)=(k:Int)+1:=IntWalk.i64_in _ (by omega);have hck:=HCELL.out k hkl;go_wp2_with fail
    go_roundg gk
    case measure=>omega
    case rel=>exact⟨k+1,_,by omega,rfl,by simp,rfl⟩
def dM(i:Int):List Value:=[.int .i64 i]
theorem Va(A:Option Addr)(n c:Nat)(l:List Int)(x:Int)(w:World)(h1:bW 1 dM w w.heap.size A l)(hl:l.length=n)(hn:n<=1000000):
 Calls Tryz.prog 167 #[.slice A n c,.int .i64 x] w fun e w'=>(∃i:Int,e= .returned (.int .i64 i)/\decide (0<=i)=l.any fun y=>decide (x=y))/\w=w':=by
 have H1:=kH h1;have rG:=kH hl;clear h1 hl;go_enter Tryz.func167,Tryz.ntmps167
 go_wp2_with fail
 go_loopg [8] n (fun gk s wr=> ∃k:Nat,k+gk=n/\s= .int .i64 k/\w=wr/\((l.take k).any fun y=>decide (x=y))=false)
 case atStart=>exact⟨0,by omega,rfl,rfl,rfl⟩
 case round=>
  obtain⟨k,hk,rfl,rfl,ht⟩:=hrel;have HK:=kH hk;have HT:=kH ht;have hk':k<=n:=by omega
  clear hk ht;by_cases hlt:k<n
  ·have e1:l[k]? =some (l[k]'(by rw[rG.out];exact hlt)):=aaH _
   generalize l[k]'(by rw[rG.out];exact hlt)=y at e1
   obtain⟨b1,o1,hA1,hb1,hc1⟩:=H1.out k _ e1;subst hA1;have hx:w.cell? ⟨b1,o1+k,none⟩=some (.int .i64 y):=by simpa using hc1 0 _ rfl
   have hkn:(k:Int)<(n:Int):=by omega
   have hwr:IntKind.i64.wrap ((k:Int)+1)=(k:Int)+1:=IntWalk.i64_in _ (by omega);have E1:=kH e1;clear hc1 e1;by_cases hxy:x=y
   ·have hq:(x==y)=true:=by simp[hxy]
    have hres:(l.any fun y=>decide (x=y))=true:=by
     rw[List.any_eq_true];exact⟨y,aaP E1.out,by simp[hxy]⟩
    have aM:=kH hres;clear hres hxy;go_wp2_with fail
    go_ret
    exact⟨⟨(k:Int),rfl,by rw[aM.out];simp⟩,rfl⟩
   ·have hq:(x==y)=false:=by simp[hxy]
    have hsn:((l.take (k+1)).any fun y=>decide (x=y))=false:=by
     rw[List.take_add_one,E1.out,List.any_append,HT.out];simp[hxy]
    have K9:=kH hsn;clear hsn hxy;go_wp2_with fail
    go_roundg (gk - 1)
    case measure=>have:=HK.out;omega
    case rel=>exact⟨k+1,by have:=HK.out;omega,by simp,rfl,K9.out⟩
  ·have hres:(l.any fun y=>decide (x=y))=false:=by
    have h:=HT.out;rw[List.take_of_length_le (by rw[rG.out];omega)]at h;exact h
   have aM:=kH hres;clear hres;go_wp2_with fail
   go_ret
   exact⟨⟨-1,rfl,by rw[aM.out];rfl⟩,rfl⟩
theorem DY(A:Option Addr)(n c:Nat)(l:List Int)(x:Int)(w:World)(h1:bW 1 dM w w.heap.size A l)(hl:l.length=n)(hn:n<=1000000):
 Calls Tryz.prog 96 #[.slice A n c,.int .i64 x] w fun e w'=>e= .returned (.bool (l.any fun y=>decide (x=y)))/\w=w':=by
 have HI:=kH (Va A n c l x w h1 hl hn);clear h1 hl;go_enter Tryz.func96,Tryz.ntmps96
 go_wp2_with fail
 refine HI.out.mono ?_;rintro e w' ⟨⟨i,rfl,hi⟩,rfl⟩;go_wp2_with fail
 go_ret
 exact⟨bH (by rw[<- hi]),rfl⟩
theorem U9(A:Option Addr)(n c:Nat)(l:List ByteArray)(x:ByteArray)(w:World)(h1:bW 1 eZ w w.heap.size A l)(hl:l.length=n)(hn:n<=1000000):
 Calls Tryz.prog 87 #[.slice A n c,.string x] w fun e w'=>(∃i:Int,e= .returned (.int .i64 i)/\decide (0<=i)=nE l x)/\w=w':=by
 have H1:=kH h1;have rG:=kH hl;clear h1 hl;go_enter Tryz.func87,Tryz.ntmps87
 go_wp2_with fail
 go_loopg [8] n (fun gk s wr=> ∃k:Nat,k+gk=n/\s= .int .i64 k/\w=wr/\nE (l.take k) x=false)
 case atStart=>exact⟨0,by omega,rfl,rfl,rfl⟩
 case round=>
  obtain⟨k,hk,rfl,rfl,ht⟩:=hrel;have HK:=kH hk;have HT:=kH ht;have hk':k<=n:=by omega
  clear hk ht;by_cases hlt:k<n
  ·have e1:l[k]? =some (l[k]'(by rw[rG.out];exact hlt)):=aaH _
   generalize l[k]'(by rw[rG.out];exact hlt)=y at e1
   obtain⟨b1,o1,hA1,hb1,hc1⟩:=H1.out k _ e1;subst hA1;have hx:w.cell? ⟨b1,o1+k,none⟩=some (.string y):=by simpa using hc1 0 _ rfl
   have hkn:(k:Int)<(n:Int):=by omega
   have hwr:IntKind.i64.wrap ((k:Int)+1)=(k:Int)+1:=IntWalk.i64_in _ (by omega)
   have hsn:nE (l.take (k+1)) x=(y.toList==x.toList):=by
    have h0:=HT.out;unfold nE at h0⊢;rw[List.take_add_one,e1,List.any_append,h0];simp
   have E1:=kH e1;have K9:=kH hsn;obtain⟨q,hq⟩:∃q,(y.toList==x.toList)=q:=⟨_,rfl⟩
   have hq2:(x.toList==y.toList)=q:=by rw[<- hq,Bool.eq_iff_iff];simp only[beq_iff_eq];exact eq_comm
   have HQ:=kH hq;clear hc1 e1 hsn hq;cases q
   ·go_wp2_with fail
    go_roundg (gk - 1)
    case measure=>have:=HK.out;omega
    case rel=>exact⟨k+1,by have:=HK.out;omega,by simp,rfl,by rw[K9.out];exact HQ.out⟩
   ·have hres:nE l x=true:=by
     unfold nE;rw[List.any_eq_true];exact⟨y,aaP E1.out,HQ.out⟩
    have aM:=kH hres;clear hres;go_wp2_with fail
    go_ret
    exact⟨⟨(k:Int),rfl,by rw[aM.out];simp⟩,rfl⟩
  ·have hres:nE l x=false:=by
    have h:=HT.out;rw[List.take_of_length_le (by rw[rG.out];omega)]at h;exact h
   have aM:=kH hres;clear hres;go_wp2_with fail
   go_ret
   exact⟨⟨-1,rfl,by rw[aM.out];rfl⟩,rfl⟩
theorem DX(A:Option Addr)(n c:Nat)(l:List ByteArray)(x:ByteArray)(w:World)(h1:bW 1 eZ w w.heap.size A l)(hl:l.length=n)(hn:n<=1000000):
 Calls Tryz.prog 46 #[.slice A n c,.string x] w fun e w'=>e= .returned (.bool (nE l x))/\w=w':=by
 have HI:=kH (U9 A n c l x w h1 hl hn);clear h1 hl;go_enter Tryz.func46,Tryz.ntmps46
 go_wp2_with fail
 refine HI.out.mono ?_;rintro e w' ⟨⟨i,rfl,hi⟩,rfl⟩;go_wp2_with fail
 go_ret
 exact⟨bH (by rw[<- hi]),rfl⟩
def Ro(fn:Nat):Prop:=∀(args:Array Value) (w:World),(callFunc fn args).run Tryz.prog w= .ok (.enter fn args) w
def KC(w w':World):Prop:=∀(g:Nat) (cs:Array Value) (ty:TypeId) (fr:Nat×Nat),w.heap[g]? =some (.cells cs ty fr)->w'.heap[g]? =w.heap[g]?
theorem KC.trans{a b c:World}(h:KC a b)(k:KC b c):KC a c:=fun g cs ty fr hg=>by
 have e:=h g cs ty fr hg;exact(k g cs ty fr (e.trans hg)).trans e
theorem KC.of_below{w w':World}(hb:Below w.heap.size w w'):KC w w':=fun g _ _ _ hg=>hb.block g (aaG.1 hg).1
theorem KC.blk{w w':World}{g:Nat}{ty:TypeId}{cs:Array Value}(h:KC w w')(hb:ai w g ty cs):ai w' g ty cs:=ai.keep hb (h g cs ty (0,0) hb)
theorem KC.cell{w w':World}(h:KC w w'){b o:Nat}{v:Value}(hc:w.cell? ⟨b,o,none⟩=some v):w'.cell? ⟨b,o,none⟩=some v:=by
 unfold World.cell? at hc⊢
 cases hg:w.heap[b]? with
 | none=>rw[hg]at hc;cases hc
 | some ob=>
  cases ob with
  | cells cs ty fr=>
   have:=h b cs ty fr hg;simp only at hc⊢;rw[this,hg];rw[hg]at hc;exact hc
  | _=>rw[hg]at hc;cases hc
theorem KC.lt{w w':World}(h:KC w w'){b o:Nat}{v:Value}(hc:w.cell? ⟨b,o,none⟩=some v):b<w'.heap.size:=by
 have:=h.cell hc;unfold World.cell? at this;rcases Nat.lt_or_ge b w'.heap.size with h1|h1
 ·exact h1
 ·simp[Array.getElem?_eq_none h1]at this
theorem bW.kc{α:Type}{size:Nat}{cells:α->List Value}{w w':World}{B:Nat}{A:Option Addr}{l:List α}(h:bW size cells w B A l)(hk:KC w w'):bW size cells w' B A l:=by
 intro k c hkc;obtain⟨b,off,h1,h2,h3⟩:=h k c hkc;exact⟨b,off,h1,h2,fun j v hj=>hk.cell (h3 j v hj)⟩
def jv(w:World)(v:Value)(p:Int->Bool):Prop:=
 ∃fn cap,v= .func (Fn.func fn) #[] cap/\Ro fn/\∀(k:Int) (w':World),KC w w'->w.heap.size<=w'.heap.size->Calls Tryz.prog fn (#[.int .i64 k]++cap) w' fun e w''=>e= .returned (.bool (p k))/\Below w'.heap.size w' w''
def oD(w:World)(v:Value)(p:ByteArray->Bool):Prop:=
 ∃fn cap,v= .func (Fn.func fn) #[] cap/\Ro fn/\∀(s:ByteArray) (w':World),KC w w'->w.heap.size<=w'.heap.size->Calls Tryz.prog fn (#[.string s]++cap) w' fun e w''=>e= .returned (.bool (p s))/\Below w'.heap.size w' w''
theorem jv.kc{w w':World}{v:Value}{p:Int->Bool}(h:jv w v p)(hb:KC w w')(hs:w.heap.size<=w'.heap.size):jv w' v p:=by
 obtain⟨fn,cap,h1,h2,h3⟩:=h;exact⟨fn,cap,h1,h2,fun k w'' hb' hs'=>h3 k w'' (hb.trans hb') (aaE hs hs')⟩
theorem oD.kc{w w':World}{v:Value}{p:ByteArray->Bool}(h:oD w v p)(hb:KC w w')(hs:w.heap.size<=w'.heap.size):oD w' v p:=by
 obtain⟨fn,cap,h1,h2,h3⟩:=h;exact⟨fn,cap,h1,h2,fun s w'' hb' hs'=>h3 s w'' (hb.trans hb') (aaE hs hs')⟩
theorem jv.below{w w':World}{v:Value}{p:Int->Bool}(h:jv w v p)(hb:Below w.heap.size w w'):jv w' v p:=h.kc (KC.of_below hb) hb.size
end Go.Proofs.YtoepemlnlpamlaaGreat
