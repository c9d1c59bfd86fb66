/- The law NamesStand holds: for every text and every number the law returns true, and its arguments read as before. No condition. Part 2: Since AMap AMapW Shelf Lex. -/
import Derived.Maps.Own
import Derived.Maps.RangeRun
import Derived.Shelf.Sort.Plain
import Derived.Shelf.Slices.In.SortNone
import Derived.Test.YtoepemlnlpamlaaGreatProg
import Derived.Lib.Strings
import Derived.Test.YtoepemlnlpamlaaGreatStand01
set_option maxRecDepth 100000
set_option maxHeartbeats 4000000
namespace Go.Proofs.YtoepemlnlpamlaaGreat
open Go.RowKit
structure aA (S:Nat->Prop) (w w':World):Prop where
 os:w'.os=w.os
 tape:w'.tape=w.tape
 output:w'.output=w.output
 size:w.heap.size<=w'.heap.size
 block:∀k,k<w.heap.size->¬S k->w'.heap[k]? =w.heap[k]?
section
variable {S:Nat->Prop}{a w w':World}
theorem aA.refl(S:Nat->Prop)(w:World):aA S w w:=⟨rfl,rfl,rfl,aab _,fun _ _ _=>rfl⟩
theorem aA.trans{b c:World}(h:aA S a b)(k:aA S b c):aA S a c:=
 ⟨k.os.trans h.os,k.tape.trans h.tape,k.output.trans h.output,aac h.size k.size,fun i hi hs=>(k.block i (Nat.lt_of_lt_of_le hi h.size) hs).trans (h.block i hi hs)⟩
theorem aA.drew(h:aA S a w):aA S a w.drew:=⟨h.os,h.tape,h.output,h.size,h.block⟩
theorem aA.alloc(h:aA S a w)(o:Obj):aA S a (w.alloc o):=
 ⟨h.os,h.tape,h.output,aac h.size (by simp),fun i hi hs=>(Below.heap_alloc w o i (Nat.lt_of_lt_of_le hi h.size)).trans (h.block i hi hs)⟩
theorem aA.setCell(h:aA S a w){p:Addr}(hp:S p.block\/a.heap.size<=p.block)(u:Value):aA S a (w.setCell p u):=
 ⟨h.os,h.tape,h.output,by simpa [World.setCell] using h.size,fun i hi hs=>(Below.heap_setCell w p u i (by
  rintro rfl;rcases hp with hp|hp
  ·exact hs hp
  ·omega)).trans (h.block i hi hs)⟩
theorem aA.grown{row:Option Nat}(h:aA S a w)(hg:w.grownBy w' row)(hr:∀k,row=some k->S k\/a.heap.size<=k):aA S a w':=
 ⟨hg.os.trans h.os,hg.tape.trans h.tape,hg.output.trans h.output,aac h.size hg.size,fun i hi hs=>(hg.block i (Nat.lt_of_lt_of_le hi h.size) (fun e=>by
  rcases hr i e.symm with h1|h1
  ·exact hs h1
  ·omega)).trans (h.block i hi hs)⟩
theorem aA.below(h:aA S a w)(hb:Below w.heap.size w w'):aA S a w':=
 ⟨hb.os.trans h.os,hb.tape.trans h.tape,hb.output.trans h.output,aac h.size hb.size,fun i hi hs=>(hb.block i (Nat.lt_of_lt_of_le hi h.size)).trans (h.block i hi hs)⟩
theorem aA.toBelow{B:Nat}(h:aA S a w)(hB:B<=a.heap.size)(hS:∀k,S k->B<=k):Below B a w:=
 ⟨h.os,h.tape,h.output,h.size,fun i hi=>h.block i (by omega) (fun hs=>by have:=hS i hs;omega)⟩
theorem aA.mono{S':Nat->Prop}(h:aA S a w)(hS:∀k,S k->S' k):aA S' a w:=⟨h.os,h.tape,h.output,h.size,fun i hi hs=>h.block i hi (fun h1=>hs (hS i h1))⟩
theorem ak.since{g:Nat}{t:TypeId}{cs:Array Value}(h:ak w g t cs)(hs:aA S w w')(hg:¬S g):ak w' g t cs:=h.keep (hs.block g h.lt hg)
theorem aP.since{base:Nat}{e:TypeId}{size:Nat}{v:Value}{n:Nat}{xs:List Value}(h:aP w base e size v n xs)(hs:aA S w w')(hS:∀g,v.ownBlock=some g->¬S g):aP w' base e size v n xs:=
 h.of_block fun g hv=>hs.block g (h.lt g hv).2 (hS g hv)
end
theorem aP.apart{w:World}{base base':Nat}{e e':TypeId}{size size':Nat}{v v':Value}{n n':Nat}{xs xs':List Value}(h:aP w base e size v n xs)(h':aP w base' e' size' v' n' xs')(hne:e≠e'):
 ∀g,v.ownBlock=some g->v'.ownBlock≠some g:=by
 intro g hv hv';rcases h.2 with⟨rfl,_⟩| ⟨g1,EK,I7,Ch,rfl,_,hg1,_⟩
 ·cases hv
 ·rcases h'.2 with⟨rfl,_⟩| ⟨g2,off2,cap2,cur2,rfl,_,hg2,_⟩
  ·cases hv'
  ·simp[Value.ownBlock]at hv hv'
   subst hv;subst hv';rw[hg1]at hg2;simp at hg2;exact hne hg2.2
theorem aA.step{S S':Nat->Prop}{a b c:World}(h:aA S a b)(k:aA S' b c)(hS:∀g,S' g->S g\/a.heap.size<=g):aA S a c:=
 ⟨k.os.trans h.os,k.tape.trans h.tape,k.output.trans h.output,aac h.size k.size,fun i hi hs=>(k.block i (Nat.lt_of_lt_of_le hi h.size) (fun h1=>by
  rcases hS i h1 with h2|h2
  ·exact hs h2
  ·omega)).trans (h.block i hi hs)⟩
theorem Db(w:World)(g:Nat)(u:Value)(h:w.cell? ⟨g,0,none⟩=some u):∀j v,[u][j]? =some v->w.cell? ((⟨g,0,none⟩:Addr).add j)=some v:=by
 intro j v hj
 cases j with
 | zero=>simp at hj;subst hj;exact h
 | succ j=>simp at hj
theorem ae(w:World)(o:Obj):Below w.heap.size w (w.alloc o):=(Below.refl _ _).alloc (aab _) _
theorem df.later{α:Type}{size:Nat}{cells:α->List Value}{w w':World}{A:Option Addr}{l:List α}(h:df size cells w w.heap.size A l)(hb:Below w.heap.size w w'):df size cells w' w'.heap.size A l:=(h.below hb (aab _)).mono hb.size
theorem aP.fe{w:World}{base:Nat}{e:TypeId}{size:Nat}{v:Value}{n:Nat}{xs:List Value}(h:aP w base e size v n xs){g:Nat}{t:TypeId}{cs:Array Value}(hb:ak w g t cs)(hne:e≠t):v.ownBlock≠some g:=by
 intro hv;rcases h.2 with⟨rfl,_⟩| ⟨g1,EK,I7,Ch,rfl,_,hg1,_⟩
 ·cases hv
 ·have e1:g1=g:=by simpa [Value.ownBlock] using hv
  subst e1;unfold ak at hb;rw[hb]at hg1;simp at hg1;exact hne hg1.2.symm
section
variable {P:Program}(w:World)
theorem Ol(base:Nat)(t ty e:TypeId)(i:TypeInfo)(z:Value)(size bytes:Nat)(ht:P.underlying t=some (.slice e))(hi:P.info? e=some i)(hz:i.zero=some z)
 (hsize:i.size=size) (hby:i.bytes=bytes) (hzs:z.cells.size=size) (hs0:0<size)
 (v:Value) (n:Nat) (xs:List Value) (hown:aP w base e size v n xs)
 (A:Option Addr) (m c:Nat) (news:List Value) (hl:news.length=m*size) (hnews:∀j u,news[j]? =some u->∃a,A=some a/\w.cell? (a.add j)=some u) (h1:∀u∈news,u.oneCell'=true)
 (h63:n+m<=maxLen) (hbytes:(n+m)*bytes<=140737488355328) (hbase:base<=w.heap.size):
 ∃v' w',(Builtin.append_ #[t,t] ty #[v,.slice A m c]).run P w= .ok v' w'/\aP w' base e size v' (n+m) (xs++news)/\w.grownBy w' v.ownBlock /\
  (v'.ownBlock=v.ownBlock\/v'.ownBlock=some w.heap.size):=by
 cases A with
 | some a=>
  refine EF w base t ty e i z size bytes ht hi hz hsize hby hzs v n xs hown a m c news hl (fun j u hu=>?_) h1 h63 hbytes hbase;obtain⟨a',ha,hc⟩:=hnews j u hu;cases ha
  exact hc
 | none=>
  have hn:news=[]:=by
   cases news with
   | nil=>rfl
   | cons u us=>
    obtain⟨a,ha,_⟩:=hnews 0 u rfl;cases ha
  subst hn
  have hm:m=0:=by
   rcases Nat.eq_zero_or_pos m with h|h
   ·exact h
   ·have:=Nat.mul_pos h hs0
    simp at hl;omega
  subst hm;rcases hown.2 with⟨rfl,rfl⟩| ⟨g,off,cap,cur,rfl,hbg,hg,hnc,hcm,hcs,htake⟩
  ·refine⟨.slice none 0 0,w,?_,by simpa using hown,⟨rfl,rfl,rfl,aab _,fun _ _ _=>rfl⟩,.inl rfl⟩
   simp[Builtin.append_,run_underlying ht,sizeOf,typeInfo,hi,Builtin.lenOf,Builtin.firstCells]
  ·refine⟨.slice (some ⟨g,off,none⟩) n cap,w,?_,by simpa using hown,⟨rfl,rfl,rfl,aab _,fun _ _ _=>rfl⟩,.inl rfl⟩
   simp[Builtin.append_,run_underlying ht,sizeOf,typeInfo,hi,Builtin.lenOf,Builtin.firstCells,hnc,storeCells]
end
section
variable {P:Program}(w:World)
theorem vV{ops:Array Oper}{rest:List Oper}{o:Oper}{a:Act}{Q:Exit->Act->World->Prop}(hgd:o.guard=none)(s x:Operand)(t:TypeId)
 (ho:o.op= .call { callee:=.builtin .append,args:=#[s,x],argTypes:=#[t,t] })
 (base:Nat) (e:TypeId) (i:TypeInfo) (z:Value) (size bytes:Nat) (ht:P.underlying t=some (.slice e)) (hi:P.info? e=some i) (hz:i.zero=some z)
 (hsize:i.size=size) (hby:i.bytes=bytes) (hzs:z.cells.size=size) (hs0:0<size)
 (v:Value) (n:Nat) (xs:List Value) (hs:a.eval s=v) (hown:aP w base e size v n xs)
 (A:Option Addr) (m c:Nat) (news:List Value) (hx:a.eval x= .slice A m c) (hl:news.length=m*size) (hnews:∀j u,news[j]? =some u->∃a,A=some a/\w.cell? (a.add j)=some u) (h1:∀u∈news,u.oneCell'=true)
 (h63:n+m<=maxLen) (hbytes:(n+m)*bytes<=140737488355328) (hbase:base<=w.heap.size)
 (h:∀v' w',aP w' base e size v' (n+m) (xs++news)->w.grownBy w' v.ownBlock->(v'.ownBlock=v.ownBlock\/v'.ownBlock=some w.heap.size)->wpList P ops Q rest (a.put o.dst v') w'):wpList P ops Q (o::rest) a w:=
 wpList_plain hgd fun _ hK=>by
  obtain⟨v',w',hr,h2,h3,h4⟩:=Ol (P:=P) w base t o.type e i z size bytes ht hi hz hsize hby hzs hs0 v n xs hown A m c news hl hnews h1 h63 hbytes hbase;unfold Oper.wp execOp;simp only[ho,resolve,invoke,builtin,Sem.run_bind,Sem.run_pure,Result.andThen_ok,List.map_toArray,List.map_cons,List.map_nil,hs,hx,hr];exact hK _ _ (h v' w' h2 h3 h4)
end
open Go.ChangeMaps (setBlock)
def mJ{K:Type}[DecidableEq K](k:K):List (K×Value)->Nat->Option (Nat×Value)
 | [],_=>none
 | x::m,i=>if k=x.1 then some (i,x.2) else mJ k m (i+1)
def nP{K:Type}[DecidableEq K](m:List (K×Value))(k:K):Option Value:=(mJ k m 0).map (·.2)
structure oM (K:Type) [DecidableEq K] where
 qw:K->Value
 desc:TypeDesc
 same:∀k j,Instr.sameNow desc (qw k) (qw j)=some (decide (k=j))
 check:∀(P:Program) (kt:TypeId) (b:Bool) (n:Nat) (k:K) (w:World),P.underlying kt=some desc->(Instr.checkKey b (n+1) kt (qw k)).run P w= .ok () w
 bits:∀k,Instr.sameBits 10000 (qw k) (qw k)=true
theorem Xi(k j:ByteArray):(k==j)=decide (k=j):=by
 obtain⟨a⟩:=k;obtain⟨b⟩:=j;show(a==b)=_;rw[Bool.eq_iff_iff];simp
def jB:oM ByteArray where
 qw:=.string
 desc:=.string
 same k j:=by simp[Instr.sameNow,Xi]
 check P kt b n k w h:=by simp[Instr.checkKey,run_underlying h]
 bits k:=by simp[Instr.sameBits,Xi]
def iN:oM Int where
 qw:=.int .i64
 desc:=.int .i64
 same k j:=by simp[Instr.sameNow];rw[Bool.eq_iff_iff];simp
 check P kt b n k w h:=by simp[Instr.checkKey,run_underlying h]
 bits k:=by simp[Instr.sameBits]
section
variable {K:Type} [DecidableEq K] {KK:oM K}
theorem C9(k:K):∀(m:List (K×Value)) (i j:Nat),mJ k m (i+j)=(mJ k m j).map fun x=>(i+x.1,x.2)
 | [],i,j=>rfl
 | x::m,i,j=>by
  unfold mJ;by_cases h:k=x.1
  ·simp[h]
  ·rw[if_neg h,if_neg h,Nat.add_assoc,C9 k m i (j+1)]
theorem Kt(k:K):∀(es:List MapEntry) (m:List (K×Value)) (i:Nat),es.map (fun e=>(e.key,e.val))=m.map (fun x=>(KK.qw x.1,x.2))->Instr.findNow KK.desc (KK.qw k) es i=some (mJ k m i)
 | [],m,i,h=>by
  cases m with
  | nil=>rfl
  | cons x m=>simp at h
 | e::es,m,i,h=>by
  cases m with
  | nil=>simp at h
  | cons x m=>
   simp only[List.map_cons,List.cons.injEq,Prod.mk.injEq]at h;obtain⟨⟨h1,h2⟩,h3⟩:=h;unfold Instr.findNow mJ;rw[h1,KK.same];by_cases hk:k=x.1
   ·simp[hk,h2]
   ·simp only[hk,decide_false,if_false]
    exact Kt k es m (i+1) h3
def aY(KK:oM K)(w:World)(r:Nat)(m:List (K×Value)):Prop:=
 ∃es clock,w.heap[r]? =some (.map es clock)/\es.toList.map (fun e=>(e.key,e.val))=m.map (fun x=>(KK.qw x.1,x.2))/\(∀e∈es.toList,e.born<clock)/\(es.toList.map (·.born)).Nodup
variable {w w':World}{r:Nat}{m:List (K×Value)}
theorem aY.keep(h:aY KK w r m)(hk:w'.heap[r]? =w.heap[r]?):aY KK w' r m:=by
 obtain⟨es,clock,h1,h2⟩:=h;exact⟨es,clock,hk.trans h1,h2⟩
theorem aY.lt(h:aY KK w r m):r<w.heap.size:=by
 obtain⟨es,clock,h1,_⟩:=h;exact(aae.1 h1).1
theorem aY.alloc(h:aY KK w r m)(o:Obj):aY KK (w.alloc o) r m:=h.keep (Below.heap_alloc w o r h.lt)
theorem aY.drew(h:aY KK w r m):aY KK w.drew r m:=h
theorem aY.drewN(h:aY KK w r m)(n:Nat):aY KK (w.drewN n) r m:=h
theorem aY.setCell(h:aY KK w r m){p:Addr}(hp:r≠p.block)(u:Value):aY KK (w.setCell p u) r m:=h.keep (Below.heap_setCell w p u r hp)
theorem aY.below{B:Nat}(h:aY KK w r m)(hb:Below B w w')(hg:r<B):aY KK w' r m:=h.keep (hb.block r hg)
theorem aY.since{S:Nat->Prop}(h:aY KK w r m)(hs:aA S w w')(hg:¬S r):aY KK w' r m:=h.keep (hs.block r h.lt hg)
theorem aY.made(w:World):aY KK (w.alloc (.map #[] 0)) w.heap.size []:=⟨#[],0,heap_alloc_new w _,rfl,by simp,by simp⟩
variable {P:Program}{t kt et:TypeId}
theorem uj(hk:P.underlying kt=some KK.desc)(k:K)(es:List MapEntry)(h:es.map (fun e=>(e.key,e.val))=m.map (fun x=>(KK.qw x.1,x.2)))(w:World):
 (Instr.findKey kt (KK.qw k) es).run P w= .ok (mJ k m 0) w:=by
 simp[Instr.findKey,run_underlying hk,Kt k es m 0 h]
theorem uU(ht:P.underlying t=some (.map kt et))(hk:P.underlying kt=some KK.desc){z:Value}(hz:∀w,(zeroValue et).run P w= .ok z w)(h:aY KK w r m)(k:K):
 (Instr.lookup t (.map (some r)) (KK.qw k) false).run P w= .ok ((nP m k).getD z) w:=by
 obtain⟨es,clock,h1,h2,h3⟩:=h;simp[Instr.lookup,run_underlying ht,MapKept.run_getObj_map h1,KK.check _ _ _ _ _ _ hk,uj hk k es.toList h2];unfold nP
 cases mJ k m 0 with
 | none=>simp[hz]
 | some x=>simp
theorem Bv(ht:P.underlying t=some (.map kt et))(hk:P.underlying kt=some KK.desc){z:Value}(hz:∀w,(zeroValue et).run P w= .ok z w)(h:aY KK w r m)(k:K):
 (Instr.lookup t (.map (some r)) (KK.qw k) true).run P w= .ok (.tuple #[(nP m k).getD z,.bool (nP m k).isSome]) w:=by
 obtain⟨es,clock,h1,h2,h3⟩:=h;simp[Instr.lookup,run_underlying ht,MapKept.run_getObj_map h1,KK.check _ _ _ _ _ _ hk,uj hk k es.toList h2];unfold nP
 cases mJ k m 0 with
 | none=>simp[hz]
 | some x=>simp
def qM(m:List (K×Value))(k:K)(v:Value):List (K×Value):=
 match mJ k m 0 with
 | none=>m++[(k,v)]
 | some (i,_)=>m.modify i fun _=>(k,v)
theorem F7(k:K):∀(m:List (K×Value)) (j i:Nat) (v:Value),mJ k m j=some (i,v)->∃n,i=j+n/\m[n]? =some (k,v)
 | [],j,i,v,h=>by cases h
 | x::m,j,i,v,h=>by
  unfold mJ at h;by_cases hk:k=x.1
  ·rw[if_pos hk]at h
   cases h
   exact⟨0,rfl,by rw[hk];rfl⟩
  ·rw[if_neg hk]at h
   obtain⟨n,h1,h2⟩:=F7 k m (j+1) i v h;exact⟨n+1,by omega,by simpa using h2⟩
theorem wH{α β:Type}(f:α->β)(g:α->α)(g':β->β)(h:∀x,f (g x)=g' (f x)):∀(l:List α) (i:Nat),(l.modify i g).map f=(l.map f).modify i g'
 | [],i=>by simp
 | x::l,0=>by simp[List.modify_zero_cons,h]
 | x::l,i+1=>by simp[List.modify_succ_cons,wH f g g' h l i]
theorem bU(ht:P.underlying t=some (.map kt et))(hk:P.underlying kt=some KK.desc)(h:aY KK w r m)(k:K)(v:Value):
 ∃w2,(Instr.mapUpdate t (.map (some r)) (KK.qw k) v).run P w= .ok () w2/\aY KK w2 r (qM m k v)/\w.grownBy w2 (some r)/\w2.heap.size=w.heap.size:=by
 obtain⟨es,clock,h1,h2,h3,h4⟩:=h;have hlt:r<w.heap.size:=(aae.1 h1).1
 have hgr:∀o:Obj,w.grownBy { w with heap:=w.heap.setIfInBounds r o } (some r):=fun o=>
  ⟨rfl,rfl,rfl,by simp,fun i _ hi=>by simp[Array.getElem?_setIfInBounds];intro e;exact absurd (by rw[e]) hi⟩
 have hat:∀o:Obj,({ w with heap:=w.heap.setIfInBounds r o }:World).heap[r]? =some o:=fun o=>by simp[hlt]
 unfold qM
 cases hx:mJ k m 0 with
 | none=>
  refine⟨{ w with heap:=w.heap.setIfInBounds r (.map (es.push { key:=KK.qw k,val:=v,born:=clock }) (clock+1)) },?_,⟨_,_,hat _,?_,?_,?_⟩,hgr _,by simp⟩
  ·simp[Instr.mapUpdate,run_underlying ht,MapKept.run_getObj_map h1,KK.check _ _ _ _ _ _ hk,uj hk k es.toList h2,hx,MapKept.run_setObj_map _ h1]
  ·simp[h2]
  ·intro e he
   simp at he;rcases he with he|rfl
   ·have:=h3 e (by simpa using he)
    omega
   ·simp
  ·simp only[Array.toList_push,List.map_append,List.map_cons,List.map_nil]
   rw[List.nodup_append];refine⟨h4,by simp,fun a ha b hb=>?_⟩;simp at hb;subst hb;simp only[List.mem_map]at ha;obtain⟨e,he,rfl⟩:=ha;have:=h3 e he;omega
 | some x=>
  obtain⟨i,v0⟩:=x;obtain⟨n,hn,J8⟩:=F7 k m 0 i v0 hx;have hin:i=n:=by omega
  subst hin;have hen:(es.toList.map fun e=>(e.key,e.val))[i]? =some (KK.qw k,v0):=by rw[h2];simp[J8]
  rw[List.getElem?_map]at hen
  cases hei:es.toList[i]? with
  | none=>rw[hei]at hen;cases hen
  | some e0=>
   rw[hei]at hen;simp at hen;have hei':es[i]? =some e0:=by simpa using hei
   refine⟨{ w with heap:=w.heap.setIfInBounds r (.map (es.modify i fun e=> { e with key:=KK.qw k,val:=v }) clock) },?_,⟨_,_,hat _,?_,?_,?_⟩,hgr _,by simp⟩
   ·simp[Instr.mapUpdate,run_underlying ht,MapKept.run_getObj_map h1,KK.check _ _ _ _ _ _ hk,uj hk k es.toList h2,hx,MapKept.run_setObj_map _ h1,Instr.keyThatStays,hei',hen.1,KK.bits]
   ·rw[Array.toList_modify,wH (fun e:MapEntry=>(e.key,e.val)) _ (fun _=>(KK.qw k,v)) (fun _=>rfl),h2,wH (fun x:K×Value=>(KK.qw x.1,x.2)) (fun _=>(k,v)) (fun _=>(KK.qw k,v)) (fun _=>rfl)]
   ·have hb:=wH (fun e:MapEntry=>e.born) (fun e=> { e with key:=KK.qw k,val:=v }) id (fun _=>rfl) es.toList i
    intro e he;rw[Array.toList_modify]at he;have hm:e.born∈((es.toList.modify i fun e=> { e with key:=KK.qw k,val:=v }).map fun e:MapEntry=>e.born):=List.mem_map.2 ⟨e,he,rfl⟩;rw[hb]at hm;simp at hm;obtain⟨e1,he1,h5⟩:=hm;rw[<- h5];exact h3 e1 (by simpa using he1)
   ·rw[Array.toList_modify,wH (fun e:MapEntry=>e.born) (fun e=> { e with key:=KK.qw k,val:=v }) id (fun _=>rfl)]
    simpa using h4
def mU(KK:oM K)(w:World)(r b:Nat)(m:List (K×Value))(left:List (Value×Value)):Prop:=
 ∃es clock seen c0,w.heap[r]? =some (.map es clock)/\es.toList.map (fun e=>(e.key,e.val))=m.map (fun x=>(KK.qw x.1,x.2))/\(∀e∈es.toList,e.born<clock)/\(es.toList.map (·.born)).Nodup /\
  w.heap[b]? =some (.mapIter (some r) clock seen c0)/\clock<=c0/\left=(leftOf es seen).toList.map fun e=>(e.key,e.val)
theorem mU.oH{b:Nat}{left:List (Value×Value)}(h:mU KK w r b m left):aY KK w r m:=by
 obtain⟨es,clock,seen,c0,h1,h2,h3,h4,-⟩:=h;exact⟨es,clock,h1,h2,h3,h4⟩
theorem mU.keep{b:Nat}{left:List (Value×Value)}(h:mU KK w r b m left)(hr:w'.heap[r]? =w.heap[r]?)(hb:w'.heap[b]? =w.heap[b]?):mU KK w' r b m left:=by
 obtain⟨es,clock,seen,c0,h1,h2,h3,h4,h5,h6⟩:=h;exact⟨es,clock,seen,c0,hr.trans h1,h2,h3,h4,hb.trans h5,h6⟩
theorem zV(ht:P.underlying t=some (.map kt et))(h:aY KK w r m):
 ∃w',(Instr.range t (.map (some r))).run P w= .ok (.pointer (some ⟨w.heap.size,0,none⟩)) w'/\mU KK w' r w.heap.size m (m.map fun x=>(KK.qw x.1,x.2))/\Below w.heap.size w w'/\w'.heap.size=w.heap.size+1:=by
 obtain⟨es,clock,h1,h2,h3,h4⟩:=h;refine⟨_,run_range_map w t kt et r es clock ht h1,⟨es,clock,#[],clock,?_,h2,h3,h4,heap_alloc_new w _,aab _,?_⟩,ae _ _,by simp⟩
 ·exact(Below.heap_alloc w _ r (aae.1 h1).1).trans h1
 ·unfold leftOf
  rw[<- h2,Array.toList_filter];congr 1
  exact(List.filter_eq_self.2 fun e _=>by simp).symm
theorem Cn:∀(l:List MapEntry) (e:MapEntry),(l.map (·.born)).Nodup->e∈l->l.Perm (e::l.filter fun x=> !(x.born==e.born))
 | [],e,_,h=>by cases h
 | x::l,e,hn,h=>by
  simp only[List.map_cons,List.nodup_cons]at hn;rcases List.mem_cons.1 h with rfl|h
  ·have hf:(l.filter fun x=> !(x.born==e.born))=l:=by
    rw[List.filter_eq_self];intro y hy;simp;intro h1;exact hn.1 (by rw[<- h1];exact List.mem_map.2 ⟨y,hy,rfl⟩)
   simp[hf]
  ·have hne:x.born≠e.born:=by
    intro h1;exact hn.1 (by rw[h1];exact List.mem_map.2 ⟨e,h,rfl⟩)
   have:=Cn l e hn.2 h;have hx:(!(x.born==e.born))=true:=by simp[hne]
   rw[List.filter_cons,if_pos hx];exact(List.Perm.cons x this).trans (List.Perm.swap e x _)
theorem BU{b:Nat}{left:List (Value×Value)}(ty:TypeId)(h:mU KK w r b m left)(hne:r≠b):
 (left=[]/\(Instr.next (.pointer (some ⟨b,0,none⟩)) false ty).run P w= .ok (.tuple #[.bool false]) w) \/
 ∃k v left' w',left.Perm ((k,v)::left')/\(k,v)∈(m.map fun x=>(KK.qw x.1,x.2))/\(Instr.next (.pointer (some ⟨b,0,none⟩)) false ty).run P w= .ok (.tuple #[.bool true,k,v]) w' /\
  mU KK w' r b m left'/\aA (fun g=>g=b) w w'/\w'.heap.size=w.heap.size/\(Instr.entry (.pointer (some ⟨b,0,none⟩))).run P w'= .ok (.tuple #[k,v]) w':=by
 obtain⟨es,clock,seen,c0,h1,h2,h3,h4,h5,h6,h7⟩:=h;rcases run_next_at (P:=P) w ty b r clock c0 seen es clock h5 h1 h3 h6 with⟨h8,h9⟩| ⟨e,he,w1,hw1,hrun⟩
 ·left
  refine⟨?_,h9⟩;rw[h7];have:(leftOf es seen)= #[]:=Array.eq_empty_of_size_eq_zero h8;rw[this];rfl
 ·right
  have hlt:b<w.heap.size:=(aae.1 h5).1
  have hs1:aA (fun g=>g=b) w w1/\w1.heap=w.heap:=by
   rcases hw1 with rfl|rfl
   ·exact⟨aA.refl _ _,rfl⟩
   ·exact⟨(aA.refl _ _).drew,rfl⟩
  have hheap:∀g o,g≠b->(setBlock w1 b o).heap[g]? =w.heap[g]? :=by
   intro g o hg;simp[setBlock,hs1.2,Ne.symm hg]
  have hmem:=mem_left he;have hr2:(setBlock w1 b (.mapIter (some r) clock (seen.push e.born) clock)).heap[r]? =some (.map es clock):=(hheap r _ hne).trans h1
  have hb2:(setBlock w1 b (.mapIter (some r) clock (seen.push e.born) clock)).heap[b]? =some (.mapIter (some r) clock (seen.push e.born) clock):=by
   simp[setBlock,hs1.2,hlt]
  refine⟨e.key,e.val,(leftOf es (seen.push e.born)).toList.map fun e=>(e.key,e.val),_,?_,?_,hrun,⟨es,clock,seen.push e.born,clock,hr2,h2,h3,h4,hb2,aab _,rfl⟩,?_,?_,run_entry_at _ b r clock seen es clock e hb2 hr2 hmem.1 h4⟩
  ·rw[h7]
   have hp:=Cn (leftOf es seen).toList e (by
    unfold leftOf;rw[Array.toList_filter]
    exact List.Nodup.sublist (List.Sublist.map _ List.filter_sublist) h4) he
   have hl:(leftOf es (seen.push e.born)).toList=(leftOf es seen).toList.filter fun x=> !(x.born==e.born):=by
    unfold leftOf;rw[Array.toList_filter,Array.toList_filter,List.filter_filter];congr 1
    funext x
    rw[contains_push];cases seen.contains x.born<;>cases x.born==e.born<;>rfl
   rw[hl];exact hp.map _
  ·rw[<- h2]
   exact List.mem_map.2 ⟨e,hmem.1,rfl⟩
  ·exact⟨hs1.1.os,hs1.1.tape,hs1.1.output,by simp[setBlock,hs1.2],fun g _ hg=>hheap g _ hg⟩
  ·simp[setBlock,hs1.2]
end
section
variable {K:Type} [DecidableEq K] {KK:oM K}{P:Program}(w:World) {ops:Array Oper}{rest:List Oper}{o:Oper}{a:Act}{Q:Exit->Act->World->Prop}
theorem zQ(hg:o.guard=none)(m x v:Operand)(t:TypeId)(hop:o.op=Op.insert t m x v)(kt et:TypeId)(ht:P.underlying t=some (.map kt et))(hk:P.underlying kt=some KK.desc)(r:Nat)(l:List (K×Value))(key:K)(val:Value)
 (hm:a.eval m= .map (some r)) (hx:a.eval x=KK.qw key) (hv:a.eval v=val) (h:aY KK w r l) {B:Nat}{w0:World}(hb:Below B w0 w) (hB:B<=r)
 (hK:∀w',aY KK w' r (qM l key val)->Below B w0 w'->wpList P ops Q rest (a.put o.dst undef) w'):wpList P ops Q (o::rest) a w:=by
 refine wpList_plain hg fun K' hK'=>?_
 obtain⟨w',hrun,h1,h2,h3⟩:=bU ht hk h key val;unfold Oper.wp;simp[execOp,hop,hm,hx,hv,hrun,Result.andThen];exact hK' _ _ (hK w' h1 (hb.trans (((aA.refl (fun g=>B<=g) w).grown h2 (fun k hk=>by cases hk;exact .inl hB)).toBelow (Nat.le_of_lt (Nat.lt_of_le_of_lt hB h.lt)) (fun g hg=>hg))))
end
theorem JP(v:Value)(x:ByteArray):∀(ws:List bE) (i:Nat),(mJ x (ws.map fun b=>(bI b,v)) i).map (·.2)=if si ws x.data.toList then some v else none
 | [],i=>rfl
 | b::ws,i=>by
  unfold si;simp only[List.map_cons,mJ,List.any_cons];by_cases h:x=bI b
  ·rw[if_pos h]
   have:b=x.data.toList:=by rw[h];simp[bI]
   simp[this]
  ·rw[if_neg h]
   have:decide (b=x.data.toList)=false:=by
    apply decide_eq_false
    rintro rfl;exact h (by cases x;simp[bI])
   have ih:=JP v x ws (i+1);unfold si at ih;rw[ih];simp[this]
theorem Rh(v:Value)(ws:List bE)(x:ByteArray):nP (ws.map fun b=>(bI b,v)) x=if si ws x.data.toList then some v else none:=JP v x ws 0
end Go.Proofs.YtoepemlnlpamlaaGreat
namespace Go.Proofs
open Go.Shelf
def Tryz.Ri:Go.Shelf.Ren:=⟨fun|189=>101|125=>170|257=>169|128=>221|129=>222|294=>212|295=>213|296=>214|297=>215|298=>216|299=>217|216=>218|300=>219|301=>220|328=>237|329=>238|330=>239|331=>240|332=>241|215=>151|343=>254|n=>n,fun|28=>28|3=>3|46=>218|0=>0|51=>239|53=>252|4=>4|183=>244|182=>243|131=>88|5=>5|9=>9|218=>263|222=>101|228=>273|229=>207|n=>n,fun|n=>n⟩
theorem Tryz.RN:Go.Proofs.Lays.n189 Tryz.prog Tryz.Ri:={
 mixed:=by kernel_rfl
 f125:=Tryz.func170.trans (congrArg some (by kernel_rfl))
 f128:=Tryz.func221.trans (congrArg some (by kernel_rfl))
 f129:=Tryz.func222.trans (congrArg some (by kernel_rfl))
 f189:=Tryz.func101.trans (congrArg some (by kernel_rfl))
 f215:=Tryz.func151.trans (congrArg some (by kernel_rfl))
 f216:=Tryz.func218.trans (congrArg some (by kernel_rfl))
 f257:=Tryz.func169.trans (congrArg some (by kernel_rfl))
 f294:=Tryz.func212.trans (congrArg some (by kernel_rfl))
 f295:=Tryz.func213.trans (congrArg some (by kernel_rfl))
 f296:=Tryz.func214.trans (congrArg some (by kernel_rfl))
 f297:=Tryz.func215.trans (congrArg some (by kernel_rfl))
 f298:=Tryz.func216.trans (congrArg some (by kernel_rfl))
 f299:=Tryz.func217.trans (congrArg some (by kernel_rfl))
 f300:=Tryz.func219.trans (congrArg some (by kernel_rfl))
 f301:=Tryz.func220.trans (congrArg some (by kernel_rfl))
 f328:=Tryz.func237.trans (congrArg some (by kernel_rfl))
 f329:=Tryz.func238.trans (congrArg some (by kernel_rfl))
 f330:=Tryz.func239.trans (congrArg some (by kernel_rfl))
 f331:=Tryz.func240.trans (congrArg some (by kernel_rfl))
 f332:=Tryz.func241.trans (congrArg some (by kernel_rfl))
 f343:=Tryz.func254.trans (congrArg some (by kernel_rfl))
 t0:=Tryz.underlying0
 a0:=Tryz.isAgg0
 z0:=Tryz.sizeOf0
 v0:=Tryz.zeroValue0
 t3:=Tryz.underlying3
 a3:=Tryz.isAgg3
 z3:=Tryz.sizeOf3
 v3:=Tryz.zeroValue3
 t4:=Tryz.underlying4
 a4:=Tryz.isAgg4
 z4:=Tryz.sizeOf4
 v4:=Tryz.zeroValue4
 t5:=Tryz.underlying5
 a5:=Tryz.isAgg5
 z5:=Tryz.sizeOf5
 v5:=Tryz.zeroValue5
 t9:=Tryz.underlying9
 a9:=Tryz.isAgg9
 z9:=Tryz.sizeOf9
 v9:=Tryz.zeroValue9
 t28:=Tryz.underlying28
 a28:=Tryz.isAgg28
 z28:=Tryz.sizeOf28
 v28:=Tryz.zeroValue28
 t46:=Tryz.underlying218
 a46:=Tryz.isAgg218
 z46:=Tryz.sizeOf218
 v46:=Tryz.zeroValue218
 t51:=Tryz.underlying239
 a51:=Tryz.isAgg239
 z51:=Tryz.sizeOf239
 v51:=Tryz.zeroValue239
 t53:=Tryz.underlying252
 a53:=Tryz.isAgg252
 z53:=Tryz.sizeOf252
 v53:=Tryz.zeroValue252
 t131:=Tryz.underlying88
 a131:=Tryz.isAgg88
 z131:=Tryz.sizeOf88
 v131:=Tryz.zeroValue88
 t182:=Tryz.underlying243
 a182:=Tryz.isAgg243
 z182:=Tryz.sizeOf243
 v182:=Tryz.zeroValue243
 t183:=Tryz.underlying244
 a183:=Tryz.isAgg244
 z183:=Tryz.sizeOf244
 v183:=Tryz.zeroValue244
 t218:=Tryz.underlying263
 a218:=Tryz.isAgg263
 z218:=Tryz.sizeOf263
 v218:=Tryz.zeroValue263
 t222:=Tryz.underlying101
 a222:=Tryz.isAgg101
 z222:=Tryz.sizeOf101
 v222:=Tryz.zeroValue101
 t228:=Tryz.underlying273
 a228:=Tryz.isAgg273
 z228:=Tryz.sizeOf273
 v228:=Tryz.zeroValue273
 t229:=Tryz.underlying207
 a229:=Tryz.isAgg207
 z229:=Tryz.sizeOf207
 v229:=Tryz.zeroValue207 }
open Go.Sort Go.RowKit in
theorem Tryz.slices_Sort_int(blk off cap:Nat)(zs:List Int)(w:World)(hH:Holds (Value.int .i64) w blk off zs.toArray)(hblk:blk<w.heap.size)(hsz:zs.length<4611686018427387904):
 Calls Tryz.prog 101 #[.slice (some ⟨blk,off,none⟩) zs.length cap] w fun e w'=>
  e= .returned (.tuple #[])/\∃n os,w'=grow (putRow (Value.int .i64) (Sort.ahead w n) blk off (zs.mergeSort fun x y=>decide (x<=y)).toArray) os:=Any.slices_Sort_int Tryz.RN blk off cap zs w hH hblk hsz
open Go.RowKit Go.Sort in
theorem Tryz.slices_Sort_int_none(p:Option Addr)(cap:Nat)(w:World):
 Calls Tryz.prog 101 #[.slice p 0 cap] w fun e w'=>e= .returned (.tuple #[])/\w'=w:=Any.slices_Sort_int_none Tryz.RN p cap w
end Go.Proofs
namespace Go.Proofs.YtoepemlnlpamlaaGreat
open Go.RowKit
theorem bQ{a b:Bool}(h:a=b):Ending.returned (.bool a)= .returned (.bool b):=by rw[h]
theorem tZ(c:Nat)(w:World):Calls Tryz.prog 226 #[.int .u8 (c:Int)] w fun e w'=>e= .returned (.bool (ru c))/\w=w':=by
 by_cases h1:c=9
 ·subst h1
  go_enter Tryz.func226,Tryz.ntmps226
  go_wp2
  go_ret
  exact⟨rfl,rfl⟩
 by_cases h2:c=10
 ·subst h2
  go_enter Tryz.func226,Tryz.ntmps226
  go_wp2
  go_ret
  exact⟨rfl,rfl⟩
 by_cases h3:c=13
 ·subst h3
  go_enter Tryz.func226,Tryz.ntmps226
  go_wp2
  go_ret
  exact⟨rfl,rfl⟩
 have e1:((c:Int)==9)=false:=by simp;omega
 have e2:((c:Int)==10)=false:=by simp;omega
 have e3:((c:Int)==13)=false:=by simp;omega
 have e4:decide (c=9)=false:=by simp[h1]
 have e5:decide (c=10)=false:=by simp[h2]
 have e6:decide (c=13)=false:=by simp[h3]
 clear h1 h2 h3;by_cases h4:c=32
 ·subst h4
  go_enter Tryz.func226,Tryz.ntmps226
  go_wp2
  go_ret
  exact⟨rfl,rfl⟩
 ·have e7:((c:Int)==32)=false:=by simp;omega
  have e8:decide (c=32)=false:=by simp[h4]
  have hr:ru c=false:=by simp[ru,e4,e5,e6,e8]
  have HR:=kH hr;clear e4 e5 e6 e8 h4 hr;go_enter Tryz.func226,Tryz.ntmps226
  go_wp2
  go_ret
  exact⟨bQ HR.out.symm,rfl⟩
theorem mK(c:Nat)(w:World):Calls Tryz.prog 227 #[.int .u8 (c:Int)] w fun e w'=>e= .returned (.bool (lH c))/\w=w':=by
 by_cases h1:97<=c
 ·have h1':(97:Int)<=(c:Int):=by omega
  by_cases h2:c<=122
  ·have h2':(c:Int)<=122:=by omega
   go_enter Tryz.func227,Tryz.ntmps227
   go_wp2
   go_ret
   exact⟨bQ (by simp[lH,h1,h2]),rfl⟩
  ·have h2':¬(c:Int)<=122:=by omega
   go_enter Tryz.func227,Tryz.ntmps227
   go_wp2
   go_ret
   exact⟨bQ (by simp[lH,h2]),rfl⟩
 ·have h1':¬(97:Int)<=(c:Int):=by omega
  go_enter Tryz.func227,Tryz.ntmps227
  go_wp2
  go_ret
  exact⟨bQ (by simp[lH,h1]),rfl⟩
theorem mX(c:Nat)(w:World):Calls Tryz.prog 184 #[.int .u8 (c:Int)] w fun e w'=>e= .returned (.bool (fZ c))/\w=w':=by
 by_cases h1:48<=c
 ·have h1':(48:Int)<=(c:Int):=by omega
  by_cases h2:c<=57
  ·have h2':(c:Int)<=57:=by omega
   go_enter Tryz.func184,Tryz.ntmps184
   go_wp2
   go_ret
   exact⟨bQ (by simp[fZ,h1,h2]),rfl⟩
  ·have h2':¬(c:Int)<=57:=by omega
   go_enter Tryz.func184,Tryz.ntmps184
   go_wp2
   go_ret
   exact⟨bQ (by simp[fZ,h2]),rfl⟩
 ·have h1':¬(48:Int)<=(c:Int):=by omega
  go_enter Tryz.func184,Tryz.ntmps184
  go_wp2
  go_ret
  exact⟨bQ (by simp[fZ,h1]),rfl⟩
def nW(l:List ByteArray)(x:ByteArray):Bool:=l.any fun b=>b.toList==x.toList
def fP(b:ByteArray):List Value:=[.string b]
theorem Um(l:bE):(bI l).toList=l:=by simp[bI,ByteArray.toList_eq]
theorem Gb(ws:List bE)(x:ByteArray):nW (ws.map bI) x=si ws x.data.toList:=by
 unfold nW si;rw[List.any_map];congr 1
 funext b
 simp only[Function.comp];rw[Um,ByteArray.toList_eq,Bool.eq_iff_iff];simp
theorem zO(A1:Option Addr)(n1 c1:Nat)(l:List ByteArray)(x:ByteArray)(w:World)(h1:df 1 fP w w.heap.size A1 l)(hl1:l.length=n1)(hn:n1<=1000000):
 Calls Tryz.prog 88 #[.slice A1 n1 c1,.string x] w fun e w'=>e= .returned (.bool (nW l x))/\Below w.heap.size w w':=by
 have H1:=kH h1;have uK:=kH hl1;clear h1 hl1;go_enter Tryz.func88,Tryz.ntmps88
 go_wp2_with fail
 go_loopg [5] n1 (fun gk s wr=> ∃k:Nat,k+gk=n1/\s= .int .i64 k/\Below w.heap.size w wr/\nW (l.take k) x=false)
 case atStart=>exact⟨0,by omega,rfl,Below.refl _ _,rfl⟩
 case round=>
  obtain⟨k,hk,rfl,hB,ht⟩:=hrel;have hk':k<=n1:=by omega
  have HK:=kH hk;have HT:=kH ht;clear hk ht;by_cases hlt:k<n1
  ·have e1:l[k]? =some (l[k]'(by rw[uK.out];exact hlt)):=aaf _
   generalize l[k]'(by rw[uK.out];exact hlt)=y at e1
   obtain⟨b1,o1,hA1,hb1,hc1⟩:=(H1.out.below hB (aab _)) k _ e1;subst hA1;have hx:wr.cell? ⟨b1,o1+k,none⟩=some (.string y):=by simpa using hc1 0 _ rfl
   have hkn:(k:Int)<(n1:Int):=by omega
   have hsn:nW (l.take (k+1)) x=(y.toList==x.toList):=by
    have h0:=HT.out;unfold nW at h0⊢;rw[List.take_add_one,e1,List.any_append,h0];simp
   have E1:=kH e1;have KR:=kH hsn;clear hc1 e1 hsn;obtain⟨q,hq⟩:∃q,(y.toList==x.toList)=q:=⟨_,rfl⟩
   have HQ:=kH hq;cases q
   ·go_wp2_with fail
    go_roundg (gk - 1)
    case measure=>have:=HK.out;omega
    case rel=>exact⟨k+1,by have:=HK.out;omega,by go_num,by(repeat (first|exact Below.refl _ _|assumption|refine Below.trans ?_ (Below.mono (by assumption) (by first|omega|(simp;done)|(simp;omega)))|refine Below.alloc ?_ (by first|omega|(simp;done)|(simp;omega)) _|refine Below.setCell ?_ (by first|omega|(simp;done)|(simp;omega)) _|refine Below.drew ?_|refine bq ?_ _)),by rw[KR.out];exact HQ.out⟩
   ·have hres:nW l x=true:=by
     unfold nW;rw[List.any_eq_true];exact⟨y,aan E1.out,HQ.out⟩
    have aV:=kH hres;clear hres;go_wp2_with fail
    go_ret
    rw[aV.out];exact⟨rfl,by(repeat (first|exact Below.refl _ _|assumption|refine Below.trans ?_ (Below.mono (by assumption) (by first|omega|(simp;done)|(simp;omega)))|refine Below.alloc ?_ (by first|omega|(simp;done)|(simp;omega)) _|refine Below.setCell ?_ (by first|omega|(simp;done)|(simp;omega)) _|refine Below.drew ?_|refine bq ?_ _))⟩
  ·have hres:nW l x=false:=by
    have h:=HT.out;rw[List.take_of_length_le (by rw[uK.out];omega)]at h;exact h
   have aV:=kH hres;clear hres;go_wp2_with fail
   go_ret
   rw[aV.out];exact⟨rfl,by(repeat (first|exact Below.refl _ _|assumption|refine Below.trans ?_ (Below.mono (by assumption) (by first|omega|(simp;done)|(simp;omega)))|refine Below.alloc ?_ (by first|omega|(simp;done)|(simp;omega)) _|refine Below.setCell ?_ (by first|omega|(simp;done)|(simp;omega)) _|refine Below.drew ?_|refine bq ?_ _))⟩
theorem xD(w:World)(ty:TypeId)(ws:List bE):df 1 fP (w.alloc (.cells (ws.map fun b=>Value.string (bI b)).toArray ty)) (w.alloc (.cells (ws.map fun b=>Value.string (bI b)).toArray ty)).heap.size (some ⟨w.heap.size,0,none⟩) (ws.map bI):=by
 intro k c hk;refine⟨w.heap.size,0,rfl,by simp,fun j v hj=>?_⟩;have hb:=ak.new w ty (ws.map fun b=>Value.string (bI b)).toArray;rw[hb.cell]
 cases j with
 | zero=>
  simp[fP]at hj;subst hj;simp at hk⊢;obtain⟨a,ha,rfl⟩:=hk;exact⟨a,ha,rfl⟩
 | succ j=>simp[fP]at hj
theorem Cx(s:ByteArray)(a b:Nat):(s.extract a b).data.toList=tC s.data.toList a b:=by
 rw[Lib.extract_data];unfold tC;simp
theorem Rw(x:ByteArray)(w:World):Calls Tryz.prog 228 #[.string x] w fun e w'=>e= .returned (.bool (J2 x.data.toList))/\Below w.heap.size w w':=by
 go_enter Tryz.func228,Tryz.ntmps228
 go_wp2_with fail
 refine(zO (some ⟨w.heap.size,0,none⟩) 18 18 (OV.map bI) x _ (xD w 9 OV) rfl (by omega)).mono ?_;rintro e w1 ⟨rfl,hb1⟩;go_wp2_with fail
 go_ret
 refine⟨bQ (by rw[Gb];rfl),?_⟩;have h0:=ae w (.cells (OV.map fun b=>Value.string (bI b)).toArray 9);exact h0.trans (hb1.mono (by simp))
theorem qh(s:ByteArray)(i:Nat)(h:i<s.size):(s[i]'h).toNat=bz s.data.toList i:=by
 unfold bz;rw[List.getD_eq_getElem?_getD,aaf (by simpa using h)];rfl
theorem dm(s:ByteArray):s.data.toList.length=s.size:=by simp
theorem Jw(s:ByteArray)(a:Nat)(w:World)(ha:a<s.size)(hs:s.size<=4096):
 Calls Tryz.prog 229 #[.string s,.int .i64 (a:Int)] w fun e w'=>e= .returned (.int .i64 (xC s.data.toList a:Int))/\Below w.heap.size w w':=by
 have h1i:(a:Int)+1<=s.size:=by omega
 have e1:nW (Gp.map bI) (s.extract a (a+1))=si Gp (tC s.data.toList a (a+1)):=by rw[Gb,Cx]
 have e2:nW (NY.map bI) (s.extract a (a+2))=si NY (tC s.data.toList a (a+2)):=by rw[Gb,Cx]
 obtain⟨b1,hb1⟩:∃x,si Gp (tC s.data.toList a (a+1))=x:=⟨_,rfl⟩
 obtain⟨b2,hb2⟩:∃x,si NY (tC s.data.toList a (a+2))=x:=⟨_,rfl⟩
 rw[hb1]at e1;rw[hb2]at e2
 have hres:(xC s.data.toList a:Int)=if decide (a+2<=s.size)&&b2 then 2 else if b1 then 1 else 0:=by
  unfold xC;rw[hb1,hb2,dm];split<;>(try split)<;>rfl
 rw[hres];have E1:=kH e1;have E2:=kH e2;clear e1 e2 hb1 hb2 hres;by_cases h2:a+2<=s.size
 ·have h2i:(a:Int)+2<=s.size:=by omega
  have hd:decide (a+2<=s.size)=true:=decide_eq_true h2;rw[hd];clear hd;go_enter Tryz.func229,Tryz.ntmps229
  go_wp2_with fail
  refine(zO (some ⟨w.heap.size,0,none⟩) 4 4 (NY.map bI) _ _ (xD w 9 NY) rfl (by omega)).mono ?_;rintro e w1 ⟨rfl,hb1⟩;rw[E2.out];have h0:=ae w (.cells (NY.map fun b=>Value.string (bI b)).toArray 9);have hw1:Below w.heap.size w w1:=h0.trans (hb1.mono (by simp));clear h0 hb1;cases b2
  ·go_wp2_with fail
   refine(zO (some ⟨w1.heap.size,0,none⟩) 18 18 (Gp.map bI) _ _ (xD w1 9 Gp) rfl (by omega)).mono ?_;rintro e w2 ⟨rfl,hb2⟩;rw[E1.out];have h0:=ae w1 (.cells (Gp.map fun b=>Value.string (bI b)).toArray 9);have hw2:Below w.heap.size w w2:=hw1.trans ((h0.trans (hb2.mono (by simp))).mono hw1.size);clear h0 hb2;cases b1
   ·go_wp2_with fail
    go_ret
    exact⟨rfl,hw2⟩
   ·go_wp2_with fail
    go_ret
    exact⟨rfl,hw2⟩
  ·go_wp2_with fail
   go_ret
   exact⟨rfl,hw1⟩
 ·have h2i:¬(a:Int)+2<=s.size:=by omega
  have hd:decide (a+2<=s.size)=false:=decide_eq_false h2;rw[hd];clear hd;go_enter Tryz.func229,Tryz.ntmps229
  go_wp2_with fail
  refine(zO (some ⟨w.heap.size,0,none⟩) 18 18 (Gp.map bI) _ _ (xD w 9 Gp) rfl (by omega)).mono ?_;rintro e w2 ⟨rfl,hb2⟩;rw[E1.out];have h0:=ae w (.cells (Gp.map fun b=>Value.string (bI b)).toArray 9);have hw2:Below w.heap.size w w2:=h0.trans (hb2.mono (by simp));clear h0 hb2;cases b1
  ·go_wp2_with fail
   go_ret
   exact⟨rfl,hw2⟩
  ·go_wp2_with fail
   go_ret
   exact⟨rfl,hw2⟩
end Go.Proofs.YtoepemlnlpamlaaGreat
