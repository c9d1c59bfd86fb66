/- The law NamesResolves holds where what it reads is of bulk at most 1048576: it returns true, and its argument reads as before. Part 3: Since Lex LexS LexT. -/
import Derived.Maps.Own
import Derived.Lib.Strings
import Derived.Test.YtoepemlnlpamlaaGreatReso01
import Derived.Test.YtoepemlnlpamlaaGreatReso02
set_option maxRecDepth 100000
set_option maxHeartbeats 4000000
namespace Go.Proofs.YtoepemlnlpamlaaGreat
open Go.RowKit
structure aF (S:Nat->Prop) (w w':World):Prop where
 os:w'.os=w.os
 tape:w'.tape=w.tape
 output:w'.output=w.output
 size:w.heap.size<=w'.heap.size
 block:∀k,k<w.heap.size->¬S k->w'.heap[k]? =w.heap[k]?
section
variable {S:Nat->Prop}{a w w':World}
theorem aF.refl(S:Nat->Prop)(w:World):aF S w w:=⟨rfl,rfl,rfl,abE _,fun _ _ _=>rfl⟩
theorem aF.trans{b c:World}(h:aF S a b)(k:aF S b c):aF S a c:=
 ⟨k.os.trans h.os,k.tape.trans h.tape,k.output.trans h.output,abF h.size k.size,fun i hi hs=>(k.block i (Nat.lt_of_lt_of_le hi h.size) hs).trans (h.block i hi hs)⟩
theorem aF.drew(h:aF S a w):aF S a w.drew:=⟨h.os,h.tape,h.output,h.size,h.block⟩
theorem aF.alloc(h:aF S a w)(o:Obj):aF S a (w.alloc o):=
 ⟨h.os,h.tape,h.output,abF h.size (by simp),fun i hi hs=>(Below.heap_alloc w o i (Nat.lt_of_lt_of_le hi h.size)).trans (h.block i hi hs)⟩
theorem aF.setCell(h:aF S a w){p:Addr}(hp:S p.block\/a.heap.size<=p.block)(u:Value):aF S a (w.setCell p u):=
 ⟨h.os,h.tape,h.output,by simpa [World.setCell] using h.size,fun i hi hs=>(Below.heap_setCell w p u i (by
  rintro rfl;rcases hp with hp|hp
  ·exact hs hp
  ·omega)).trans (h.block i hi hs)⟩
theorem aF.grown{row:Option Nat}(h:aF S a w)(hg:w.grownBy w' row)(hr:∀k,row=some k->S k\/a.heap.size<=k):aF S a w':=
 ⟨hg.os.trans h.os,hg.tape.trans h.tape,hg.output.trans h.output,abF h.size hg.size,fun i hi hs=>(hg.block i (Nat.lt_of_lt_of_le hi h.size) (fun e=>by
  rcases hr i e.symm with h1|h1
  ·exact hs h1
  ·omega)).trans (h.block i hi hs)⟩
theorem aF.below(h:aF S a w)(hb:Below w.heap.size w w'):aF S a w':=
 ⟨hb.os.trans h.os,hb.tape.trans h.tape,hb.output.trans h.output,abF h.size hb.size,fun i hi hs=>(hb.block i (Nat.lt_of_lt_of_le hi h.size)).trans (h.block i hi hs)⟩
theorem aF.toBelow{B:Nat}(h:aF S a w)(hB:B<=a.heap.size)(hS:∀k,S k->B<=k):Below B a w:=
 ⟨h.os,h.tape,h.output,h.size,fun i hi=>h.block i (by omega) (fun hs=>by have:=hS i hs;omega)⟩
theorem aF.mono{S':Nat->Prop}(h:aF S a w)(hS:∀k,S k->S' k):aF S' a w:=⟨h.os,h.tape,h.output,h.size,fun i hi hs=>h.block i hi (fun h1=>hs (hS i h1))⟩
theorem ai.since{g:Nat}{t:TypeId}{cs:Array Value}(h:ai w g t cs)(hs:aF S w w')(hg:¬S g):ai w' g t cs:=h.keep (hs.block g h.lt hg)
theorem aL.since{base:Nat}{e:TypeId}{size:Nat}{v:Value}{n:Nat}{xs:List Value}(h:aL w base e size v n xs)(hs:aF S w w')(hS:∀g,v.ownBlock=some g->¬S g):aL w' base e size v n xs:=
 h.of_block fun g hv=>hs.block g (h.lt g hv).2 (hS g hv)
end
theorem aL.apart{w:World}{base base':Nat}{e e':TypeId}{size size':Nat}{v v':Value}{n n':Nat}{xs xs':List Value}(h:aL w base e size v n xs)(h':aL w base' e' size' v' n' xs')(hne:e≠e'):
 ∀g,v.ownBlock=some g->v'.ownBlock≠some g:=by
 intro g hv hv';rcases h.2 with⟨rfl,_⟩| ⟨g1,MU,M3,J3,rfl,_,hg1,_⟩
 ·cases hv
 ·rcases h'.2 with⟨rfl,_⟩| ⟨g2,off2,cap2,cur2,rfl,_,hg2,_⟩
  ·cases hv'
  ·simp[Value.ownBlock]at hv hv'
   subst hv;subst hv';rw[hg1]at hg2;simp at hg2;exact hne hg2.2
theorem aF.step{S S':Nat->Prop}{a b c:World}(h:aF S a b)(k:aF S' b c)(hS:∀g,S' g->S g\/a.heap.size<=g):aF S a c:=
 ⟨k.os.trans h.os,k.tape.trans h.tape,k.output.trans h.output,abF h.size k.size,fun i hi hs=>(k.block i (Nat.lt_of_lt_of_le hi h.size) (fun h1=>by
  rcases hS i h1 with h2|h2
  ·exact hs h2
  ·omega)).trans (h.block i hi hs)⟩
theorem DT(w:World)(g:Nat)(u:Value)(h:w.cell? ⟨g,0,none⟩=some u):∀j v,[u][j]? =some v->w.cell? ((⟨g,0,none⟩:Addr).add j)=some v:=by
 intro j v hj
 cases j with
 | zero=>simp at hj;subst hj;exact h
 | succ j=>simp at hj
theorem ag(w:World)(o:Obj):Below w.heap.size w (w.alloc o):=(Below.refl _ _).alloc (abE _) _
theorem bN.later{α:Type}{size:Nat}{cells:α->List Value}{w w':World}{A:Option Addr}{l:List α}(h:bN size cells w w.heap.size A l)(hb:Below w.heap.size w w'):bN size cells w' w'.heap.size A l:=(h.below hb (abE _)).mono hb.size
theorem aL.bZ{w:World}{base:Nat}{e:TypeId}{size:Nat}{v:Value}{n:Nat}{xs:List Value}(h:aL w base e size v n xs){g:Nat}{t:TypeId}{cs:Array Value}(hb:ai w g t cs)(hne:e≠t):v.ownBlock≠some g:=by
 intro hv;rcases h.2 with⟨rfl,_⟩| ⟨g1,MU,M3,J3,rfl,_,hg1,_⟩
 ·cases hv
 ·have e1:g1=g:=by simpa [Value.ownBlock] using hv
  subst e1;unfold ai at hb;rw[hb]at hg1;simp at hg1;exact hne hg1.2.symm
section
variable {P:Program}(w:World)
theorem Fs(base:Nat)(t ty e:TypeId)(i:TypeInfo)(z:Value)(size bytes:Nat)(ht:P.underlying t=some (.slice e))(hi:P.info? e=some i)(hz:i.zero=some z)
 (hsize:i.size=size) (hby:i.bytes=bytes) (hzs:z.cells.size=size) (hs0:0<size)
 (v:Value) (n:Nat) (xs:List Value) (hown:aL w base e size v n xs)
 (A:Option Addr) (m c:Nat) (news:List Value) (hl:news.length=m*size) (hnews:∀j u,news[j]? =some u->∃a,A=some a/\w.cell? (a.add j)=some u) (h1:∀u∈news,u.oneCell'=true)
 (h63:n+m<=maxLen) (hbytes:(n+m)*bytes<=140737488355328) (hbase:base<=w.heap.size):
 ∃v' w',(Builtin.append_ #[t,t] ty #[v,.slice A m c]).run P w= .ok v' w'/\aL w' base e size v' (n+m) (xs++news)/\w.grownBy w' v.ownBlock /\
  (v'.ownBlock=v.ownBlock\/v'.ownBlock=some w.heap.size):=by
 cases A with
 | some a=>
  refine Fq w base t ty e i z size bytes ht hi hz hsize hby hzs v n xs hown a m c news hl (fun j u hu=>?_) h1 h63 hbytes hbase;obtain⟨a',ha,hc⟩:=hnews j u hu;cases ha
  exact hc
 | none=>
  have hn:news=[]:=by
   cases news with
   | nil=>rfl
   | cons u us=>
    obtain⟨a,ha,_⟩:=hnews 0 u rfl;cases ha
  subst hn
  have hm:m=0:=by
   rcases Nat.eq_zero_or_pos m with h|h
   ·exact h
   ·have:=Nat.mul_pos h hs0
    simp at hl;omega
  subst hm;rcases hown.2 with⟨rfl,rfl⟩| ⟨g,off,cap,cur,rfl,hbg,hg,hnc,hcm,hcs,htake⟩
  ·refine⟨.slice none 0 0,w,?_,by simpa using hown,⟨rfl,rfl,rfl,abE _,fun _ _ _=>rfl⟩,.inl rfl⟩
   simp[Builtin.append_,run_underlying ht,sizeOf,typeInfo,hi,Builtin.lenOf,Builtin.firstCells]
  ·refine⟨.slice (some ⟨g,off,none⟩) n cap,w,?_,by simpa using hown,⟨rfl,rfl,rfl,abE _,fun _ _ _=>rfl⟩,.inl rfl⟩
   simp[Builtin.append_,run_underlying ht,sizeOf,typeInfo,hi,Builtin.lenOf,Builtin.firstCells,hnc,storeCells]
end
section
variable {P:Program}(w:World)
theorem Ku{ops:Array Oper}{rest:List Oper}{o:Oper}{a:Act}{Q:Exit->Act->World->Prop}(hgd:o.guard=none)(s x:Operand)(t:TypeId)
 (ho:o.op= .call { callee:=.builtin .append,args:=#[s,x],argTypes:=#[t,t] })
 (base:Nat) (e:TypeId) (i:TypeInfo) (z:Value) (size bytes:Nat) (ht:P.underlying t=some (.slice e)) (hi:P.info? e=some i) (hz:i.zero=some z)
 (hsize:i.size=size) (hby:i.bytes=bytes) (hzs:z.cells.size=size) (hs0:0<size)
 (v:Value) (n:Nat) (xs:List Value) (hs:a.eval s=v) (hown:aL w base e size v n xs)
 (A:Option Addr) (m c:Nat) (news:List Value) (hx:a.eval x= .slice A m c) (hl:news.length=m*size) (hnews:∀j u,news[j]? =some u->∃a,A=some a/\w.cell? (a.add j)=some u) (h1:∀u∈news,u.oneCell'=true)
 (h63:n+m<=maxLen) (hbytes:(n+m)*bytes<=140737488355328) (hbase:base<=w.heap.size)
 (h:∀v' w',aL w' base e size v' (n+m) (xs++news)->w.grownBy w' v.ownBlock->(v'.ownBlock=v.ownBlock\/v'.ownBlock=some w.heap.size)->wpList P ops Q rest (a.put o.dst v') w'):wpList P ops Q (o::rest) a w:=
 wpList_plain hgd fun _ hK=>by
  obtain⟨v',w',hr,h2,h3,h4⟩:=Fs (P:=P) w base t o.type e i z size bytes ht hi hz hsize hby hzs hs0 v n xs hown A m c news hl hnews h1 h63 hbytes hbase;unfold Oper.wp execOp;simp only[ho,resolve,invoke,builtin,Sem.run_bind,Sem.run_pure,Result.andThen_ok,List.map_toArray,List.map_cons,List.map_nil,hs,hx,hr];exact hK _ _ (h v' w' h2 h3 h4)
end
theorem bH{a b:Bool}(h:a=b):Ending.returned (.bool a)= .returned (.bool b):=by rw[h]
theorem uq(c:Nat)(w:World):Calls Tryz.prog 226 #[.int .u8 (c:Int)] w fun e w'=>e= .returned (.bool (rz c))/\w=w':=by
 by_cases h1:c=9
 ·subst h1
  go_enter Tryz.func226,Tryz.ntmps226
  go_wp2
  go_ret
  exact⟨rfl,rfl⟩
 by_cases h2:c=10
 ·subst h2
  go_enter Tryz.func226,Tryz.ntmps226
  go_wp2
  go_ret
  exact⟨rfl,rfl⟩
 by_cases h3:c=13
 ·subst h3
  go_enter Tryz.func226,Tryz.ntmps226
  go_wp2
  go_ret
  exact⟨rfl,rfl⟩
 have e1:((c:Int)==9)=false:=by simp;omega
 have e2:((c:Int)==10)=false:=by simp;omega
 have e3:((c:Int)==13)=false:=by simp;omega
 have e4:decide (c=9)=false:=by simp[h1]
 have e5:decide (c=10)=false:=by simp[h2]
 have e6:decide (c=13)=false:=by simp[h3]
 clear h1 h2 h3;by_cases h4:c=32
 ·subst h4
  go_enter Tryz.func226,Tryz.ntmps226
  go_wp2
  go_ret
  exact⟨rfl,rfl⟩
 ·have e7:((c:Int)==32)=false:=by simp;omega
  have e8:decide (c=32)=false:=by simp[h4]
  have hr:rz c=false:=by simp[rz,e4,e5,e6,e8]
  have HR:=kH hr;clear e4 e5 e6 e8 h4 hr;go_enter Tryz.func226,Tryz.ntmps226
  go_wp2
  go_ret
  exact⟨bH HR.out.symm,rfl⟩
theorem kT(c:Nat)(w:World):Calls Tryz.prog 227 #[.int .u8 (c:Int)] w fun e w'=>e= .returned (.bool (j5 c))/\w=w':=by
 by_cases h1:97<=c
 ·have h1':(97:Int)<=(c:Int):=by omega
  by_cases h2:c<=122
  ·have h2':(c:Int)<=122:=by omega
   go_enter Tryz.func227,Tryz.ntmps227
   go_wp2
   go_ret
   exact⟨bH (by simp[j5,h1,h2]),rfl⟩
  ·have h2':¬(c:Int)<=122:=by omega
   go_enter Tryz.func227,Tryz.ntmps227
   go_wp2
   go_ret
   exact⟨bH (by simp[j5,h2]),rfl⟩
 ·have h1':¬(97:Int)<=(c:Int):=by omega
  go_enter Tryz.func227,Tryz.ntmps227
  go_wp2
  go_ret
  exact⟨bH (by simp[j5,h1]),rfl⟩
theorem mM(c:Nat)(w:World):Calls Tryz.prog 184 #[.int .u8 (c:Int)] w fun e w'=>e= .returned (.bool (fP c))/\w=w':=by
 by_cases h1:48<=c
 ·have h1':(48:Int)<=(c:Int):=by omega
  by_cases h2:c<=57
  ·have h2':(c:Int)<=57:=by omega
   go_enter Tryz.func184,Tryz.ntmps184
   go_wp2
   go_ret
   exact⟨bH (by simp[fP,h1,h2]),rfl⟩
  ·have h2':¬(c:Int)<=57:=by omega
   go_enter Tryz.func184,Tryz.ntmps184
   go_wp2
   go_ret
   exact⟨bH (by simp[fP,h2]),rfl⟩
 ·have h1':¬(48:Int)<=(c:Int):=by omega
  go_enter Tryz.func184,Tryz.ntmps184
  go_wp2
  go_ret
  exact⟨bH (by simp[fP,h1]),rfl⟩
def lT(l:List ByteArray)(x:ByteArray):Bool:=l.any fun b=>b.toList==x.toList
def fE(b:ByteArray):List Value:=[.string b]
theorem VN(l:aZ):(aX l).toList=l:=by simp[aX,ByteArray.toList_eq]
theorem G7(ws:List aZ)(x:ByteArray):lT (ws.map aX) x=sK ws x.data.toList:=by
 unfold lT sK;rw[List.any_map];congr 1
 funext b
 simp only[Function.comp];rw[VN,ByteArray.toList_eq,Bool.eq_iff_iff];simp
theorem yh(A1:Option Addr)(n1 c1:Nat)(l:List ByteArray)(x:ByteArray)(w:World)(h1:bN 1 fE w w.heap.size A1 l)(hl1:l.length=n1)(hn:n1<=1000000):
 Calls Tryz.prog 88 #[.slice A1 n1 c1,.string x] w fun e w'=>e= .returned (.bool (lT l x))/\Below w.heap.size w w':=by
 have H1:=kH h1;have tN:=kH hl1;clear h1 hl1;go_enter Tryz.func88,Tryz.ntmps88
 go_wp2_with fail
 go_loopg [5] n1 (fun gk s wr=> ∃k:Nat,k+gk=n1/\s= .int .i64 k/\Below w.heap.size w wr/\lT (l.take k) x=false)
 case atStart=>exact⟨0,by omega,rfl,Below.refl _ _,rfl⟩
 case round=>
  obtain⟨k,hk,rfl,hB,ht⟩:=hrel;have hk':k<=n1:=by omega
  have HK:=kH hk;have HT:=kH ht;clear hk ht;by_cases hlt:k<n1
  ·have e1:l[k]? =some (l[k]'(by rw[tN.out];exact hlt)):=abI _
   generalize l[k]'(by rw[tN.out];exact hlt)=y at e1
   obtain⟨b1,o1,hA1,hb1,hc1⟩:=(H1.out.below hB (abE _)) k _ e1;subst hA1;have hx:wr.cell? ⟨b1,o1+k,none⟩=some (.string y):=by simpa using hc1 0 _ rfl
   have hkn:(k:Int)<(n1:Int):=by omega
   have hsn:lT (l.take (k+1)) x=(y.toList==x.toList):=by
    have h0:=HT.out;unfold lT at h0⊢;rw[List.take_add_one,e1,List.any_append,h0];simp
   have E1:=kH e1;have mF:=kH hsn;clear hc1 e1 hsn;obtain⟨q,hq⟩:∃q,(y.toList==x.toList)=q:=⟨_,rfl⟩
   have HQ:=kH hq;cases q
   ·go_wp2_with fail
    go_roundg (gk - 1)
    case measure=>have:=HK.out;omega
    case rel=>exact⟨k+1,by have:=HK.out;omega,by go_num,by(repeat (first|exact Below.refl _ _|assumption|refine Below.trans ?_ (Below.mono (by assumption) (by first|omega|(simp;done)|(simp;omega)))|refine Below.alloc ?_ (by first|omega|(simp;done)|(simp;omega)) _|refine Below.setCell ?_ (by first|omega|(simp;done)|(simp;omega)) _|refine Below.drew ?_|refine aR ?_ _)),by rw[mF.out];exact HQ.out⟩
   ·have hres:lT l x=true:=by
     unfold lT;rw[List.any_eq_true];exact⟨y,abQ E1.out,HQ.out⟩
    have aM:=kH hres;clear hres;go_wp2_with fail
    go_ret
    rw[aM.out];exact⟨rfl,by(repeat (first|exact Below.refl _ _|assumption|refine Below.trans ?_ (Below.mono (by assumption) (by first|omega|(simp;done)|(simp;omega)))|refine Below.alloc ?_ (by first|omega|(simp;done)|(simp;omega)) _|refine Below.setCell ?_ (by first|omega|(simp;done)|(simp;omega)) _|refine Below.drew ?_|refine aR ?_ _))⟩
  ·have hres:lT l x=false:=by
    have h:=HT.out;rw[List.take_of_length_le (by rw[tN.out];omega)]at h;exact h
   have aM:=kH hres;clear hres;go_wp2_with fail
   go_ret
   rw[aM.out];exact⟨rfl,by(repeat (first|exact Below.refl _ _|assumption|refine Below.trans ?_ (Below.mono (by assumption) (by first|omega|(simp;done)|(simp;omega)))|refine Below.alloc ?_ (by first|omega|(simp;done)|(simp;omega)) _|refine Below.setCell ?_ (by first|omega|(simp;done)|(simp;omega)) _|refine Below.drew ?_|refine aR ?_ _))⟩
theorem xN(w:World)(ty:TypeId)(ws:List aZ):bN 1 fE (w.alloc (.cells (ws.map fun b=>Value.string (aX b)).toArray ty)) (w.alloc (.cells (ws.map fun b=>Value.string (aX b)).toArray ty)).heap.size (some ⟨w.heap.size,0,none⟩) (ws.map aX):=by
 intro k c hk;refine⟨w.heap.size,0,rfl,by simp,fun j v hj=>?_⟩;have hb:=ai.new w ty (ws.map fun b=>Value.string (aX b)).toArray;rw[hb.cell]
 cases j with
 | zero=>
  simp[fE]at hj;subst hj;simp at hk⊢;obtain⟨a,ha,rfl⟩:=hk;exact⟨a,ha,rfl⟩
 | succ j=>simp[fE]at hj
theorem Di(s:ByteArray)(a b:Nat):(s.extract a b).data.toList=tQ s.data.toList a b:=by
 rw[Lib.extract_data];unfold tQ;simp
theorem IU(x:ByteArray)(w:World):Calls Tryz.prog 228 #[.string x] w fun e w'=>e= .returned (.bool (Ip x.data.toList))/\Below w.heap.size w w':=by
 go_enter Tryz.func228,Tryz.ntmps228
 go_wp2_with fail
 refine(yh (some ⟨w.heap.size,0,none⟩) 18 18 (QF.map aX) x _ (xN w 9 QF) rfl (by omega)).mono ?_;rintro e w1 ⟨rfl,hb1⟩;go_wp2_with fail
 go_ret
 refine⟨bH (by rw[G7];rfl),?_⟩;have h0:=ag w (.cells (QF.map fun b=>Value.string (aX b)).toArray 9);exact h0.trans (hb1.mono (by simp))
theorem mZ(s:ByteArray)(i:Nat)(h:i<s.size):(s[i]'h).toNat=bz s.data.toList i:=by
 unfold bz;rw[List.getD_eq_getElem?_getD,abI (by simpa using h)];rfl
theorem bP(s:ByteArray):s.data.toList.length=s.size:=by simp
theorem KG(s:ByteArray)(a:Nat)(w:World)(ha:a<s.size)(hs:s.size<=4096):
 Calls Tryz.prog 229 #[.string s,.int .i64 (a:Int)] w fun e w'=>e= .returned (.int .i64 (xM s.data.toList a:Int))/\Below w.heap.size w w':=by
 have YS:(a:Int)+1<=s.size:=by omega
 have e1:lT (Ho.map aX) (s.extract a (a+1))=sK Ho (tQ s.data.toList a (a+1)):=by rw[G7,Di]
 have e2:lT (Pw.map aX) (s.extract a (a+2))=sK Pw (tQ s.data.toList a (a+2)):=by rw[G7,Di]
 obtain⟨b1,hb1⟩:∃x,sK Ho (tQ s.data.toList a (a+1))=x:=⟨_,rfl⟩
 obtain⟨b2,hb2⟩:∃x,sK Pw (tQ s.data.toList a (a+2))=x:=⟨_,rfl⟩
 rw[hb1]at e1;rw[hb2]at e2
 have hres:(xM s.data.toList a:Int)=if decide (a+2<=s.size)&&b2 then 2 else if b1 then 1 else 0:=by
  unfold xM;rw[hb1,hb2,bP];split<;>(try split)<;>rfl
 rw[hres];have E1:=kH e1;have E2:=kH e2;clear e1 e2 hb1 hb2 hres;by_cases h2:a+2<=s.size
 ·have h2i:(a:Int)+2<=s.size:=by omega
  have hd:decide (a+2<=s.size)=true:=decide_eq_true h2;rw[hd];clear hd;go_enter Tryz.func229,Tryz.ntmps229
  go_wp2_with fail
  refine(yh (some ⟨w.heap.size,0,none⟩) 4 4 (Pw.map aX) _ _ (xN w 9 Pw) rfl (by omega)).mono ?_;rintro e w1 ⟨rfl,hb1⟩;rw[E2.out];have h0:=ag w (.cells (Pw.map fun b=>Value.string (aX b)).toArray 9);have hw1:Below w.heap.size w w1:=h0.trans (hb1.mono (by simp));clear h0 hb1;cases b2
  ·go_wp2_with fail
   refine(yh (some ⟨w1.heap.size,0,none⟩) 18 18 (Ho.map aX) _ _ (xN w1 9 Ho) rfl (by omega)).mono ?_;rintro e w2 ⟨rfl,hb2⟩;rw[E1.out];have h0:=ag w1 (.cells (Ho.map fun b=>Value.string (aX b)).toArray 9);have hw2:Below w.heap.size w w2:=hw1.trans ((h0.trans (hb2.mono (by simp))).mono hw1.size);clear h0 hb2;cases b1
   ·go_wp2_with fail
    go_ret
    exact⟨rfl,hw2⟩
   ·go_wp2_with fail
    go_ret
    exact⟨rfl,hw2⟩
  ·go_wp2_with fail
   go_ret
   exact⟨rfl,hw1⟩
 ·have h2i:¬(a:Int)+2<=s.size:=by omega
  have hd:decide (a+2<=s.size)=false:=decide_eq_false h2;rw[hd];clear hd;go_enter Tryz.func229,Tryz.ntmps229
  go_wp2_with fail
  refine(yh (some ⟨w.heap.size,0,none⟩) 18 18 (Ho.map aX) _ _ (xN w 9 Ho) rfl (by omega)).mono ?_;rintro e w2 ⟨rfl,hb2⟩;rw[E1.out];have h0:=ag w (.cells (Ho.map fun b=>Value.string (aX b)).toArray 9);have hw2:Below w.heap.size w w2:=h0.trans (hb2.mono (by simp));clear h0 hb2;cases b1
  ·go_wp2_with fail
   go_ret
   exact⟨rfl,hw2⟩
  ·go_wp2_with fail
   go_ret
   exact⟨rfl,hw2⟩
theorem Mg(s:ByteArray)(a:Nat)(w:World)(ha:a<s.size)(hs:s.size<=4096):
 Calls Tryz.prog 230 #[.string s,.int .i64 (a:Int)] w fun e w'=>e= .returned (.bool (uK s.data.toList a))/\Below w.heap.size w w':=by
 have hc:=mZ s a ha;have hai:(a:Int)<s.size:=by omega
 obtain⟨b1,hb1⟩:∃x,j5 (bz s.data.toList a)=x:=⟨_,rfl⟩
 obtain⟨b2,hb2⟩:∃x,fP (bz s.data.toList a)=x:=⟨_,rfl⟩
 have hres:uK s.data.toList a=(b1 || b2 || decide (0<xM s.data.toList a)):=by unfold uK;rw[hb1,hb2]
 rw[hres];have HB1:=kH hb1;have HB2:=kH hb2;clear hb1 hb2 hres;cases b1
 ·cases b2
  ·go_enter Tryz.func230,Tryz.ntmps230
   go_wp2_with fail
   refine(kT _ _).mono ?_;rintro e w' ⟨rfl,rfl⟩;rw[HB1.out];go_wp2_with fail
   refine(mM _ _).mono ?_;rintro e w' ⟨rfl,rfl⟩;rw[HB2.out];go_wp2_with fail
   refine(KG s a _ ha hs).mono ?_;rintro e w' ⟨rfl,hb⟩;go_wp2_with fail
   go_ret
   exact⟨bH (by simp),hb⟩
  ·go_enter Tryz.func230,Tryz.ntmps230
   go_wp2_with fail
   refine(kT _ _).mono ?_;rintro e w' ⟨rfl,rfl⟩;rw[HB1.out];go_wp2_with fail
   refine(mM _ _).mono ?_;rintro e w' ⟨rfl,rfl⟩;rw[HB2.out];go_wp2_with fail
   go_ret
   exact⟨rfl,Below.refl _ _⟩
 ·go_enter Tryz.func230,Tryz.ntmps230
  go_wp2_with fail
  refine(kT _ _).mono ?_;rintro e w' ⟨rfl,rfl⟩;rw[HB1.out];go_wp2_with fail
  go_ret
  exact⟨rfl,Below.refl _ _⟩
theorem ZY(s:ByteArray)(a:Nat)(w:World)(ha:a<=s.size)(hs:s.size<=4096):
 Calls Tryz.prog 179 #[.string s,.int .i64 (a:Int)] w fun e w'=>e= .returned (.int .i64 (j4 s.data.toList (s.size+1) a:Int))/\w=w':=by
 go_enter Tryz.func179,Tryz.ntmps179
 go_wp2_with fail
 go_loopg [1] (s.size - a) (fun gk s1 wr=> ∃k f:Nat,k+gk=s.size/\s1= .int .i64 k/\j4 s.data.toList (s.size+1) a=j4 s.data.toList f k/\s.size<f+k/\w=wr)
 case atStart=>exact⟨a,s.size+1,by omega,rfl,rfl,by omega,rfl⟩
 case round=>
  obtain⟨k,f,hk,rfl,hsk,hf,rfl⟩:=hrel;have hk':k<=s.size:=by omega
  have HK:=kH hk;have Ux:=kH hsk;clear hk hsk;obtain⟨f,rfl⟩:∃g,f=g+1:=⟨f - 1,by omega⟩
  by_cases hlt:k<s.size
  ·have hc:=mZ s k hlt
   have hki:(k:Int)<s.size:=by omega
   obtain⟨c,hcb⟩:∃c,bz s.data.toList k=c:=⟨_,rfl⟩
   rw[hcb]at hc;obtain⟨bl,hbl⟩:∃x,rz c=x:=⟨_,rfl⟩
   have Dv:=kH hcb;have vX:=kH hbl;clear hcb hbl;by_cases uN:c=35
   ·subst uN
    have hb0:bl=false:=by rw[<- vX.out];rfl
    subst hb0
    have hsn:j4 s.data.toList (f+1) k=j4 s.data.toList f (iD (fun i=> !decide (bz s.data.toList i=10)) s.data.toList s.data.toList.length k):=by
     rw[j4,Dv.out,bP,if_pos (by simp[hlt]),if_pos rfl]
    have mF:=kH hsn;clear hsn;go_wp2_with fail
    refine(uq 35 _).mono ?_;rintro e w' ⟨rfl,rfl⟩;go_wp2_with fail
    obtain⟨wo,rfl⟩:∃wo:World,wo=w:=⟨_,rfl⟩
    obtain⟨gp,rfl⟩:∃gp:Nat,gp=gk:=⟨_,rfl⟩
    go_loopg [1] (s.size - k) (fun gk s1 wr=> ∃j:Nat,j+gk=s.size/\k<=j/\s1= .int .i64 j/\(∀i,k<=i->i<j->(fun i=> !decide (bz s.data.toList i=10)) i=true)/\wo=wr)
    case atStart=>exact⟨k,by omega,abE _,rfl,fun i h1 h2=>by omega,rfl⟩
    case round=>
     obtain⟨j,hj,hkj,rfl,hall,rfl⟩:=hrel;have hj':j<=s.size:=by omega
     have HJ:=kH hj;have iO:=kH hall;clear hj hall
     have fin:(j<s.size->bz s.data.toList j=10)->j4 s.data.toList (s.size+1) a=j4 s.data.toList f j:=fun h=>by
      rw[Ux.out,mF.out,GN _ k j hkj (by rw[bP];exact hj') iO.out (fun hl=>by rw[bP]at hl;simp[h hl]) (by omega)]
     by_cases hlt2:j<s.size
     ·have hc2:=mZ s j hlt2
      have hji:(j:Int)<s.size:=by omega
      obtain⟨c2,aaN⟩:∃c,bz s.data.toList j=c:=⟨_,rfl⟩
      rw[aaN]at hc2;have abz:=kH aaN;clear aaN;by_cases h10:c2=10
      ·have hfin:=fin (fun _=>by rw[abz.out];exact h10)
       have hkj2:k<j:=by
        rcases Nat.lt_or_ge k j with h|h
        ·exact h
        ·have:j=k:=by omega
         subst this;have:=Dv.out.symm.trans abz.out;omega
       have iw:=kH hfin;subst h10;clear hfin fin;go_wp2_with fail
       go_roundg (s.size - j)
       case measure=>have:=HK.out;omega
       case rel=>exact⟨j,f,by omega,rfl,iw.out,by omega,rfl⟩
      ·have hne:((c2:Int) !=10)=true:=by simp;omega
       have fC:Hid (bz s.data.toList j≠10):=kH (by rw[abz.out];exact h10);clear h10 fin;go_wp2_with fail
       go_roundg (gk - 1)
       case measure=>have:=HJ.out;omega
       case rel=>
        refine⟨j+1,by have:=HJ.out;omega,by omega,by go_num,fun i h1 h2=>?_,rfl⟩;by_cases hij:i=j
        ·subst hij;simpa using fC.out
        ·exact iO.out i h1 (by omega)
     ·have hjs:j=s.size:=by omega
      have hfin:=fin (fun h=>by omega);have iw:=kH hfin;clear hfin fin;subst hjs;go_wp2_with fail
      go_roundg 0
      case measure=>have:=HK.out;omega
      case rel=>exact⟨s.size,f,by omega,rfl,iw.out,by omega,rfl⟩
   ·have h35i:((c:Int)==35)=false:=by simp;omega
    cases bl
    ·have hsn:j4 s.data.toList (f+1) k=k:=by
      rw[j4,Dv.out,bP,if_neg];rw[vX.out];simp[uN]
     have hres:=Ux.out.trans hsn;have aM:=kH hres;clear hres hsn uN;go_wp2_with fail
     refine(uq c _).mono ?_;rintro e w' ⟨rfl,rfl⟩;rw[vX.out];go_wp2_with fail
     go_ret
     exact⟨TH (by rw[aM.out]),rfl⟩
    ·have hsn:j4 s.data.toList (f+1) k=j4 s.data.toList f (k+1):=by
      rw[j4,Dv.out,bP,if_pos,if_neg uN];rw[vX.out];simp[hlt]
     have mF:=kH hsn;clear hsn uN;go_wp2_with fail
     refine(uq c _).mono ?_;rintro e w' ⟨rfl,rfl⟩;rw[vX.out];go_wp2_with fail
     go_roundg (gk - 1)
     case measure=>have:=HK.out;omega
     case rel=>exact⟨k+1,f,by have:=HK.out;omega,by go_num,Ux.out.trans mF.out,by omega,rfl⟩
  ·have hks:k=s.size:=by omega
   have hsn:j4 s.data.toList (f+1) k=k:=by
    rw[j4,bP,if_neg (by simp[hlt])]
   have hres:=Ux.out.trans hsn;have aM:=kH hres;clear hres hsn;go_wp2_with fail
   go_ret
   exact⟨TH (by rw[aM.out]),rfl⟩
theorem Nn(s:ByteArray)(a:Nat)(w:World)(ha:a<s.size)(hs:s.size<=4096):
 Calls Tryz.prog 180 #[.string s,.int .i64 (a:Int)] w fun e w'=>e= .returned (.tuple #[.int .i64 ((gI s.data.toList a).1:Int),.int .i64 ((gI s.data.toList a).2:Int)])/\Below w.heap.size w w':=by
 have hc:=mZ s a ha;have hai:(a:Int)<s.size:=by omega
 obtain⟨c,hcb⟩:∃c,bz s.data.toList a=c:=⟨_,rfl⟩
 rw[hcb]at hc;have Dv:=kH hcb;clear hcb;obtain⟨bl,hbl⟩:∃x,j5 c=x:=⟨_,rfl⟩
 have vX:=kH hbl;clear hbl;cases bl
 ·obtain⟨bd,hbd⟩:∃x,fP c=x:=⟨_,rfl⟩
  have zy:=kH hbd;clear hbd;cases bd
  ·obtain⟨sm,hsm⟩:∃x,xM s.data.toList a=x:=⟨_,rfl⟩
   have hsm2:sm<=2:=by rw[<- hsm];exact symM_le a
   have hsy:∀w:World,Calls Tryz.prog 229 #[.string s,.int .i64 (a:Int)] w fun e w'=>e= .returned (.int .i64 (sm:Int))/\Below w.heap.size w w':=fun w=>by rw[<- hsm];exact KG s a w ha hs
   have pV:=kH hsm;have Uw:=kH hsy;clear hsm hsy;by_cases h0:0<sm
   ·have h0i:(0:Int)<(sm:Int):=by omega
    have hres:gI s.data.toList a=(3,a+sm):=by
     unfold gI;rw[Dv.out,vX.out,zy.out,pV.out,if_neg (by simp),if_neg (by simp),if_pos h0]
    have aM:=kH hres;clear hres h0;go_enter Tryz.func180,Tryz.ntmps180
    go_wp2_with fail
    refine(kT c _).mono ?_;rintro e w' ⟨rfl,rfl⟩;rw[vX.out];go_wp2_with fail
    refine(mM c _).mono ?_;rintro e w' ⟨rfl,rfl⟩;rw[zy.out];go_wp2_with fail
    refine(Uw.out _).mono ?_;rintro e w1 ⟨rfl,hb1⟩;go_wp2_with fail
    refine(Uw.out _).mono ?_;rintro e w2 ⟨rfl,hb2⟩;go_wp2_with fail
    go_ret2
    refine⟨by rw[aM.out];rfl,hb1.trans (hb2.mono hb1.size)⟩
   ·have hs0:sm=0:=by omega
    subst hs0
    have hrun:gI s.data.toList a=(4,iD (fun i=> !rz (bz s.data.toList i)&& !decide (bz s.data.toList i=35)&& !uK s.data.toList i) s.data.toList s.data.toList.length a):=by
     unfold gI;rw[Dv.out,vX.out,zy.out,pV.out,if_neg (by simp),if_neg (by simp),if_neg (by simp)]
    have vM:=kH hrun;clear hrun h0;go_enter Tryz.func180,Tryz.ntmps180
    go_wp2_with fail
    refine(kT c _).mono ?_;rintro e w' ⟨rfl,rfl⟩;rw[vX.out];go_wp2_with fail
    refine(mM c _).mono ?_;rintro e w' ⟨rfl,rfl⟩;rw[zy.out];go_wp2_with fail
    refine(Uw.out _).mono ?_;rintro e w1 ⟨rfl,hb1⟩;clear hc;go_wp2_with fail
    go_loopg [6] (s.size - a) (fun gk s6 wr=> ∃j:Nat,j+gk=s.size/\a<=j/\s6= .int .i64 j/\(∀i,a<=i->i<j->(fun i=> !rz (bz s.data.toList i)&& !decide (bz s.data.toList i=35)&& !uK s.data.toList i) i=true)/\Below w.heap.size w wr)
    case atStart=>exact⟨a,by omega,abE _,rfl,fun i h1 h2=>by omega,hb1⟩
    case round=>
     obtain⟨j,hj,haj,rfl,hall,hB⟩:=hrel;have hj':j<=s.size:=by omega
     have HJ:=kH hj;have iO:=kH hall;clear hj hall hb1
     have fin:(j<s.size->(!rz (bz s.data.toList j)&& !decide (bz s.data.toList j=35)&& !uK s.data.toList j)=false)->gI s.data.toList a=(4,j):=fun h=>by
      rw[vM.out,GN _ a j haj (by rw[bP];exact hj') iO.out (fun hl=>by rw[bP]at hl;exact h hl) (by omega)]
     by_cases hlt:j<s.size
     ·have hc:=mZ s j hlt
      have hji:(j:Int)<s.size:=by omega
      obtain⟨d,hcd⟩:∃c,bz s.data.toList j=c:=⟨_,rfl⟩
      rw[hcd]at hc;obtain⟨b1,hb1⟩:∃x,rz d=x:=⟨_,rfl⟩
      obtain⟨b3,hb3⟩:∃x,uK s.data.toList j=x:=⟨_,rfl⟩
      have Bp:=kH hcd;have HB1:=kH hb1;have HB3:=kH hb3;rw[hcd,hb1,hb3]at fin;clear hcd hb1 hb3;cases b1
      ·by_cases uN:d=35
       ·have hfin:=fin (fun _=>by simp[uN])
        have hdi:((d:Int) !=35)=false:=by simp;omega
        have iw:=kH hfin;clear hfin fin uN;go_wp2_with fail
        refine(uq d _).mono ?_;rintro e w' ⟨rfl,rfl⟩;rw[HB1.out];go_wp2_with fail
        go_ret2
        exact⟨by rw[iw.out];rfl,hB⟩
       ·have hdi:((d:Int) !=35)=true:=by simp;omega
        have hda:decide (d=35)=false:=decide_eq_false uN;rw[hda]at fin;have HDA:=kH hda;clear hda uN;cases b3
        ·clear fin
         go_wp2_with fail
         refine(uq d _).mono ?_;rintro e w' ⟨rfl,rfl⟩;rw[HB1.out];go_wp2_with fail
         refine(Mg s j _ hlt hs).mono ?_;rintro e w2 ⟨rfl,hb2⟩;rw[HB3.out];go_wp2_with fail
         go_roundg (gk - 1)
         case measure=>have:=HJ.out;omega
         case rel=>
          refine⟨j+1,by have:=HJ.out;omega,by omega,by go_num,fun i h1 h2=>?_,hB.trans (hb2.mono hB.size)⟩;by_cases hij:i=j
          ·subst hij
           rw[HB3.out,Bp.out,HDA.out,HB1.out];rfl
          ·exact iO.out i h1 (by omega)
        ·have hfin:=fin (fun _=>by simp)
         have iw:=kH hfin;clear hfin fin;go_wp2_with fail
         refine(uq d _).mono ?_;rintro e w' ⟨rfl,rfl⟩;rw[HB1.out];go_wp2_with fail
         refine(Mg s j _ hlt hs).mono ?_;rintro e w2 ⟨rfl,hb2⟩;rw[HB3.out];go_wp2_with fail
         go_ret2
         exact⟨by rw[iw.out];rfl,hB.trans (hb2.mono hB.size)⟩
      ·have hfin:=fin (fun _=>by simp)
       have iw:=kH hfin;clear hfin fin;go_wp2_with fail
       refine(uq d _).mono ?_;rintro e w' ⟨rfl,rfl⟩;rw[HB1.out];go_wp2_with fail
       go_ret2
       exact⟨by rw[iw.out];rfl,hB⟩
     ·have hjs:j=s.size:=by omega
      have hfin:=fin (fun h=>by omega);have iw:=kH hfin;clear hfin fin;subst hjs;go_wp2_with fail
      go_ret2
      exact⟨by rw[iw.out];rfl,hB⟩
  ·have hrun:gI s.data.toList a=(2,iD (fun i=>fP (bz s.data.toList i)) s.data.toList s.data.toList.length a):=by
    unfold gI;rw[Dv.out,vX.out,zy.out,if_neg (by simp),if_pos rfl]
   have vM:=kH hrun;clear hrun;go_enter Tryz.func180,Tryz.ntmps180
   go_wp2_with fail
   refine(kT c _).mono ?_;rintro e w' ⟨rfl,rfl⟩;rw[vX.out];go_wp2_with fail
   refine(mM c _).mono ?_;rintro e w' ⟨rfl,rfl⟩;rw[zy.out];clear hc;go_wp2_with fail
   go_loopg [6] (s.size - a) (fun gk s6 wr=> ∃j:Nat,j+gk=s.size/\a<=j/\s6= .int .i64 j/\(∀i,a<=i->i<j->(fun i=>fP (bz s.data.toList i)) i=true)/\w=wr)
   case atStart=>exact⟨a,by omega,abE _,rfl,fun i h1 h2=>by omega,rfl⟩
   case round=>
    obtain⟨j,hj,haj,rfl,hall,rfl⟩:=hrel;have hj':j<=s.size:=by omega
    have HJ:=kH hj;have iO:=kH hall;clear hj hall
    have fin:(j<s.size->fP (bz s.data.toList j)=false)->gI s.data.toList a=(2,j):=fun h=>by
     rw[vM.out,GN _ a j haj (by rw[bP];exact hj') iO.out (fun hl=>by rw[bP]at hl;exact h hl) (by omega)]
    by_cases hlt:j<s.size
    ·have hc:=mZ s j hlt
     have hji:(j:Int)<s.size:=by omega
     obtain⟨d,hcd⟩:∃c,bz s.data.toList j=c:=⟨_,rfl⟩
     rw[hcd]at hc;obtain⟨b1,hb1⟩:∃x,fP d=x:=⟨_,rfl⟩
     have Bp:=kH hcd;have HB1:=kH hb1;rw[hcd,hb1]at fin;clear hcd hb1;cases b1
     ·have hfin:=fin (fun _=>rfl)
      have iw:=kH hfin;clear hfin fin;go_wp2_with fail
      refine(mM d _).mono ?_;rintro e w' ⟨rfl,rfl⟩;rw[HB1.out];go_wp2_with fail
      go_ret2
      exact⟨by rw[iw.out];rfl,Below.refl _ _⟩
     ·clear fin
      go_wp2_with fail
      refine(mM d _).mono ?_;rintro e w' ⟨rfl,rfl⟩;rw[HB1.out];go_wp2_with fail
      go_roundg (gk - 1)
      case measure=>have:=HJ.out;omega
      case rel=>
       refine⟨j+1,by have:=HJ.out;omega,by omega,by go_num,fun i h1 h2=>?_,rfl⟩;by_cases hij:i=j
       ·subst hij
        rw[Bp.out];exact HB1.out
       ·exact iO.out i h1 (by omega)
    ·have hjs:j=s.size:=by omega
     have hfin:=fin (fun h=>by omega);have iw:=kH hfin;clear hfin fin;subst hjs;go_wp2_with fail
     go_ret2
     exact⟨by rw[iw.out];rfl,Below.refl _ _⟩
 ·have hrun:gI s.data.toList a=(if Ip (tQ s.data.toList a (iD (fun i=>wO (bz s.data.toList i)) s.data.toList s.data.toList.length a)) then 1 else 0,iD (fun i=>wO (bz s.data.toList i)) s.data.toList s.data.toList.length a):=by
   unfold gI;rw[Dv.out,vX.out,if_pos rfl]
  have vM:=kH hrun;clear hrun;go_enter Tryz.func180,Tryz.ntmps180
  go_wp2_with fail
  refine(kT c _).mono ?_;rintro e w' ⟨rfl,rfl⟩;rw[vX.out];clear hc;go_wp2_with fail
  go_loopg [6] (s.size - a) (fun gk s6 wr=> ∃j:Nat,j+gk=s.size/\a<=j/\s6= .int .i64 j/\(∀i,a<=i->i<j->(fun i=>wO (bz s.data.toList i)) i=true)/\w=wr)
  case atStart=>exact⟨a,by omega,abE _,rfl,fun i h1 h2=>by omega,rfl⟩
  case round=>
   obtain⟨j,hj,haj,rfl,hall,rfl⟩:=hrel;have hj':j<=s.size:=by omega
   have HJ:=kH hj;have iO:=kH hall;clear hj hall;obtain⟨kb,hkb⟩:∃x,Ip (tQ s.data.toList a j)=x:=⟨_,rfl⟩
   have fin:(j<s.size->wO (bz s.data.toList j)=false)->gI s.data.toList a=(if kb then 1 else 0,j):=fun h=>by
    rw[vM.out,GN _ a j haj (by rw[bP];exact hj') iO.out (fun hl=>by rw[bP]at hl;exact h hl) (by omega),hkb]
   have Lu:∀w:World,Calls Tryz.prog 228 #[.string (s.extract a j)] w fun e w'=>e= .returned (.bool kb)/\Below w.heap.size w w':=fun w=>by
    have:=IU (s.extract a j) w;rw[Di,hkb]at this;exact this
   have Dt:=kH Lu;clear Lu hkb;have haji:(a:Int)<=(j:Int):=by omega
   have hjsi:(j:Int)<=s.size:=by omega
   by_cases hlt:j<s.size
   ·have hc:=mZ s j hlt
    have hji:(j:Int)<s.size:=by omega
    obtain⟨d,hcd⟩:∃c,bz s.data.toList j=c:=⟨_,rfl⟩
    rw[hcd]at hc;obtain⟨b1,hb1⟩:∃x,j5 d=x:=⟨_,rfl⟩
    obtain⟨b2,hb2⟩:∃x,fP d=x:=⟨_,rfl⟩
    have hid:wO d=(b1 || b2 || decide (d=95)):=by unfold wO;rw[hb1,hb2]
    have Bp:=kH hcd;have HB1:=kH hb1;have HB2:=kH hb2;rw[hcd,hid]at fin;have HID:=kH hid;clear hcd hb1 hb2 hid;cases b1
    ·cases b2
     ·by_cases h95:d=95
      ·have hdi:((d:Int)==95)=true:=by simp;omega
       have HD:Hid (d=95):=kH h95;clear fin h95;go_wp2_with fail
       refine(kT d _).mono ?_;rintro e w' ⟨rfl,rfl⟩;rw[HB1.out];go_wp2_with fail
       refine(mM d _).mono ?_;rintro e w' ⟨rfl,rfl⟩;rw[HB2.out];go_wp2_with fail
       go_roundg (gk - 1)
       case measure=>have:=HJ.out;omega
       case rel=>
        refine⟨j+1,by have:=HJ.out;omega,by omega,by go_num,fun i h1 h2=>?_,rfl⟩;by_cases hij:i=j
        ·subst hij
         rw[Bp.out,HID.out];simp[HD.out]
        ·exact iO.out i h1 (by omega)
      ·have hdi:((d:Int)==95)=false:=by simp;omega
       have hfin:=fin (fun _=>by simp[h95]);have iw:=kH hfin;clear hfin fin h95;go_wp2_with fail
       refine(kT d _).mono ?_;rintro e w' ⟨rfl,rfl⟩;rw[HB1.out];go_wp2_with fail
       refine(mM d _).mono ?_;rintro e w' ⟨rfl,rfl⟩;rw[HB2.out];go_wp2_with fail
       refine(Dt.out _).mono ?_;rintro e w1 ⟨rfl,hb1⟩;cases kb
       ·go_wp2_with fail
        go_ret2
        exact⟨by rw[iw.out];rfl,hb1⟩
       ·go_wp2_with fail
        go_ret2
        exact⟨by rw[iw.out];rfl,hb1⟩
     ·clear fin
      go_wp2_with fail
      refine(kT d _).mono ?_;rintro e w' ⟨rfl,rfl⟩;rw[HB1.out];go_wp2_with fail
      refine(mM d _).mono ?_;rintro e w' ⟨rfl,rfl⟩;rw[HB2.out];go_wp2_with fail
      go_roundg (gk - 1)
      case measure=>have:=HJ.out;omega
      case rel=>
       refine⟨j+1,by have:=HJ.out;omega,by omega,by go_num,fun i h1 h2=>?_,rfl⟩;by_cases hij:i=j
       ·subst hij
        rw[Bp.out,HID.out];simp
       ·exact iO.out i h1 (by omega)
    ·clear fin
     go_wp2_with fail
     refine(kT d _).mono ?_;rintro e w' ⟨rfl,rfl⟩;rw[HB1.out];go_wp2_with fail
     go_roundg (gk - 1)
     case measure=>have:=HJ.out;omega
     case rel=>
      refine⟨j+1,by have:=HJ.out;omega,by omega,by go_num,fun i h1 h2=>?_,rfl⟩;by_cases hij:i=j
      ·subst hij
       rw[Bp.out,HID.out];simp
      ·exact iO.out i h1 (by omega)
   ·have hjs:j=s.size:=by omega
    have hfin:=fin (fun h=>by omega);have iw:=kH hfin;clear hfin fin;subst hjs;go_wp2_with fail
    refine(Dt.out _).mono ?_;rintro e w1 ⟨rfl,hb1⟩;cases kb
    ·go_wp2_with fail
     go_ret2
     exact⟨by rw[iw.out];rfl,hb1⟩
    ·go_wp2_with fail
     go_ret2
     exact⟨by rw[iw.out];rfl,hb1⟩
end Go.Proofs.YtoepemlnlpamlaaGreat
