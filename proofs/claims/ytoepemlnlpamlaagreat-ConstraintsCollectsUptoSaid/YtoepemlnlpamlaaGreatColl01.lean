/- Collect agrees with the reference. Part 1: Base Mem Maps Since LexM Lex LexS LexT ParM Tree ParW Scan Num Held Par3 Par5 ParC HeldG HeldP AMap AMapW. -/
import Derived.Test.YtoepemlnlpamlaaGreatProg
import Derived.WalkSpells
import Derived.WalkLawsBesides
import Derived.BigQuiet
import Derived.Lib.Hide
import Derived.Deep.AppendLies
import Derived.Deep.Upon
import Derived.Deep.RegionHeld3
import Derived.Deep.RegionLaw
import Derived.Deep.DeepCutAuto
import Derived.StillTailTactics
import Derived.Lib.Strings
set_option maxRecDepth 100000
set_option maxHeartbeats 4000000
namespace Go.Proofs.YtoepemlnlpamlaaGreat
abbrev ab9:=@Nat.le_refl
abbrev aca:=@Nat.le_trans
abbrev acb:=@Bool.and_eq_true
abbrev acd:=@Array.getElem?_eq_some_iff
abbrev ace:=@List.getElem?_eq_getElem
abbrev acf:=@Option.some.injEq
abbrev acg:=@List.getElem?_eq_some_iff
abbrev ach:=@List.getElem?_cons_zero
abbrev aci:=@List.getElem?_cons_succ
abbrev acj:=@List.getElem?_toArray
abbrev ack:=@List.getElem?_append_right
abbrev acm:=@List.length_append
abbrev acn:=@List.mem_of_getElem?
abbrev aco:=@List.length_cons
open Go.RowKit
theorem ag{A:Sort _}(e:A):∃q, e=q:= ⟨_, rfl⟩
theorem sA{A:Type}{l:List A}{i:Nat}{a:A}:l.toArray.setIfInBounds i a=(l.set i a).toArray:=by simp
theorem sZ{A:Type}{x:A}{l:List A}{a:A}:(x::l).set 0 a=a::l:=rfl
theorem sC{A:Type}{x:A}{l:List A}{n:Nat}{a:A}:(x::l).set (n+1) a=x::l.set n a:=rfl
theorem kH{p:Prop}(h:p):Go.RowKit.Hid p:=Lib.hid h
theorem kS{a b:Bool}(h:a=b):Ending.returned (.bool a)= .returned (.bool b):=by rw[h]
theorem AO{W A:World}(B:Below W.heap.size W A):(∀b o,b<W.heap.size->A.cell? ⟨b,o,none⟩=W.cell? ⟨b,o,none⟩)/\(∀b o,b<W.heap.size->A.frozen? ⟨b,o,none⟩=W.frozen? ⟨b,o,none⟩):=
 ⟨fun b o h=>B.cell (p:=⟨b,o,none⟩) h,fun b o h=>B.frozen (p:=⟨b,o,none⟩) h⟩
theorem aL{B:Nat}{a w:World}(h:Below B a w)(n:Nat):Below B a (w.drewN n):=⟨h.os,h.tape,h.output,h.size,h.block⟩
def aS{α:Type}(size:Nat)(cells:α->List Value)(w:World)(B:Nat)(A:Option Addr)(l:List α):Prop:=
 ∀k c,l[k]? =some c->∃b off,A=some ⟨b,off,none⟩/\b<B/\∀j v,(cells c)[j]? =some v->w.cell? ⟨b,off+k*size+j,none⟩=some v
theorem aS.below{F:Type}{size:Nat}{cells:F->List Value}{w w':World}{B C:Nat}{A:Option Addr}{l:List F}(h:aS size cells w B A l)(H:Below C w w')(M:B<=C):
 aS size cells w' B A l:=by
 intro k c L;obtain⟨b,E,G,D,I⟩:=h k c L;exact⟨b,E,G,D,fun j v J=>(H.cell (p:=⟨b,_,none⟩) (by show b<C;omega)).trans (I j v J)⟩
theorem aS.mono{E:Type}{size:Nat}{cells:E->List Value}{w:World}{B D:Nat}{A:Option Addr}{l:List E}(h:aS size cells w B A l)(J:B<=D):aS size cells w D A l:=by
 intro k c H;obtain⟨b,C,F,I,G⟩:=h k c H;exact⟨b,C,F,by omega,G⟩
def ah(w:World)(g:Nat)(t:TypeId)(cs:Array Value):Prop:=w.heap[g]? =some (.cells cs t (0,0))
section
variable {w w':World}{g:Nat}{t:TypeId}{cs:Array Value}
theorem ah.lt(h:ah w g t cs):g<w.heap.size:=(acd.1 h).1
theorem ah.cell(h:ah w g t cs)(i:Nat):w.cell? ⟨g,i,none⟩=cs[i]? :=cell_of_row w g i cs t (0,0) h
theorem ah.frozen(h:ah w g t cs)(i:Nat):w.frozen? ⟨g,i,none⟩=false:=by
 unfold ah at h;simp[World.frozen?,h]
theorem ah.keep(h:ah w g t cs)(A:w'.heap[g]? =w.heap[g]?):ah w' g t cs:=A.trans h
theorem ah.new(w:World)(t:TypeId)(cs:Array Value):ah (w.alloc (.cells cs t)) w.heap.size t cs:=heap_alloc_new w _
theorem ah.drew(h:ah w g t cs):ah w.drew g t cs:=h
theorem ah.alloc(h:ah w g t cs)(o:Obj):ah (w.alloc o) g t cs:=h.keep (Below.heap_alloc w o g h.lt)
theorem ah.dB(h:ah w g t cs)(i:Nat)(u:Value):ah (w.setCell ⟨g,i,none⟩ u) g t (cs.setIfInBounds i u):=by
 unfold ah at h⊢;simp[World.setCell,Array.getElem?_modify,h]
theorem ah.set2{a b:Value}(h:ah w g t #[a,b])(x y:Value):ah ((w.setCell ⟨g,0,none⟩ x).setCell ⟨g,1,none⟩ y) g t #[x,y]:=by
 have:=(h.dB 0 x).dB 1 y;simpa using this
theorem ah.far(h:ah w g t cs){p:Addr}(A:g≠p.block)(u:Value):ah (w.setCell p u) g t cs:=h.keep (Below.heap_setCell w p u g A)
theorem ah.below{B:Nat}(h:ah w g t cs)(A:Below B w w')(C:g<B):ah w' g t cs:=h.keep (A.block g C)
theorem ah.grown{A:Option Nat}(h:ah w g t cs)(B:w.grownBy w' A)(C:some g≠A):ah w' g t cs:=h.keep (B.block g h.lt C)
end
def aG(w:World)(base:Nat)(e:TypeId)(size:Nat)(v:Value)(n:Nat)(xs:List Value):Prop:=
 xs.length=n*size/\((v= .slice none 0 0/\n=0) \/
  ∃g off cap cur,v= .slice (some ⟨g,off,none⟩) n cap/\base<=g/\w.heap[g]? =some (.cells cur e (0,0))/\n<=cap/\cap<=maxLen/\off+cap*size<=cur.size/\(cur.toList.drop off).take (n*size)=xs)
section
variable {w w':World}{base:Nat}{e:TypeId}{size:Nat}{v:Value}{n:Nat}{xs:List Value}
theorem aG.nil(w:World)(base:Nat)(e:TypeId)(size:Nat):aG w base e size (.slice none 0 0) 0 []:=⟨by simp,.inl ⟨rfl,rfl⟩⟩
theorem aG.block{g:Nat}{cur:Array Value}{n:Nat}(A:base<=g)(B:w.heap[g]? =some (.cells cur e (0,0)))(C:n<=maxLen)(D:cur.size=n*size):aG w base e size (.slice (some ⟨g,0,none⟩) n n) n cur.toList:=
 ⟨by simpa using D,.inr ⟨g,0,n,cur,rfl,A,B,ab9 _,C,by omega,by rw[List.drop_zero,List.take_of_length_le (by simp;omega)]⟩⟩
theorem aG.lt(h:aG w base e size v n xs):∀k,v.ownBlock=some k->base<=k/\k<w.heap.size:=by
 intro k A;rcases h.2 with⟨rfl,_⟩| ⟨g,E,B,cur,rfl,C,D,_⟩
 ·simp[Value.ownBlock]at A
 simp[Value.ownBlock]at A;subst A;exact⟨C,(acd.1 D).1⟩
theorem aG.form(h:aG w base e size v n xs)(E:0<n):∃g B A,v= .slice (some ⟨g,B,none⟩) n A/\n<=A/\A<=maxLen/\base<=g/\g<w.heap.size/\∀j u,xs[j]? =some u->w.cell? ⟨g,B+j,none⟩=some u:=by
 rcases h.2 with⟨_,J⟩| ⟨g,B,A,cur,I,F,D,E,G,L,H⟩
 ·omega
 refine⟨g,B,A,I,E,G,F,(acd.1 D).1,fun j u C=>?_⟩;rw[cell_of_row w g (B+j) cur e (0,0) D];rw[<- H,List.getElem?_take]at C;split at C
 ·rw[List.getElem?_drop]at C
  simpa using C
 cases C
theorem aG.shape(h:aG w base e size v n xs):∃A c,v= .slice A n c/\n<=c/\c<=maxLen:=by
 rcases h.2 with⟨rfl,rfl⟩| ⟨g,F,B,cur,E,G,H,D,C,I,J⟩
 ·exact⟨none,0,rfl,ab9 _,by simp[maxLen]⟩
 exact⟨_,_,E,D,C⟩
theorem aG.of_block(h:aG w base e size v n xs)(G:∀g,v.ownBlock=some g->w'.heap[g]? =w.heap[g]?):aG w' base e size v n xs:=by
 refine⟨h.1,?_⟩;rcases h.2 with D| ⟨g,B,A,cur,C,E,F,rest⟩
 ·exact .inl D
 exact .inr ⟨g,B,A,cur,C,E,(G g (by rw[C];rfl)).trans F,rest⟩
theorem aG.kept{A:Option Nat}(h:aG w base e size v n xs)(D:w.grownBy w' A)(B:v.ownBlock=none\/v.ownBlock≠A):aG w' base e size v n xs:=
 h.of_block fun g E=>D.block g (h.lt g E).2 (by rcases B with C|C<;>simp_all)
theorem aG.below{B:Nat}(h:aG w base e size v n xs)(C:Below B w w')(A:∀g,v.ownBlock=some g->g<B):aG w' base e size v n xs:=
 h.of_block fun g D=>C.block g (A g D)
theorem aG.alloc(h:aG w base e size v n xs)(o:Obj):aG (w.alloc o) base e size v n xs:=
 h.of_block fun g A=>Below.heap_alloc w o g (h.lt g A).2
theorem aG.drew(h:aG w base e size v n xs):aG w.drew base e size v n xs:=h
theorem aG.setCell(h:aG w base e size v n xs){p:Addr}(B:v.ownBlock≠some p.block)(u:Value):aG (w.setCell p u) base e size v n xs:=
 h.of_block fun g C=>Below.heap_setCell w p u g (fun A=>B (by rw[C,A]))
theorem aG.mono{base':Nat}(h:aG w base e size v n xs)(F:base'<=base):aG w base' e size v n xs:=by
 refine⟨h.1,?_⟩;rcases h.2 with C| ⟨g,B,A,cur,E,D,rest⟩
 ·exact .inl C
 exact .inr ⟨g,B,A,cur,E,by omega,rest⟩
theorem aG.rowAt{O:Type}{cells:O->List Value}{l:List O}(h:aG w base e size v n xs){A:Option Addr}{c:Nat}(M:v= .slice A n c)(G:xs=l.flatMap cells)(J:∀c∈l,(cells c).length=size)(L:l.length=n):
 aS size cells w w.heap.size A l:=by
 intro k x B;have F:k<n:=by rw[<- L];exact(acg.1 B).1
 obtain⟨g,H,R,D,_,_,_,C,E⟩:=h.form (by omega);rw[M]at D;cases D
 refine⟨g,H,rfl,C,fun j u I=>?_⟩;rw[Nat.add_assoc];refine E _ _ ?_;subst G;clear h M C E F L
 induction l generalizing k with
 | nil=>simp at B
 | cons y ys ih=>
  have N:=J y (by simp);have T:j<(cells x).length:=(acg.1 I).1;rw[List.flatMap_cons]
  cases k with
  | zero=>
   simp at B;subst B;rw[List.getElem?_append_left (by omega),<- I];simp
  | succ k=>
   rw[ack (by rw[N,Nat.succ_mul];omega),N];have:=ih (fun c E=>J c (by simp[E])) k (by simpa using B);rw[<- this];congr 1
   rw[Nat.succ_mul];omega
end
section
variable {P:Program}(w:World)
theorem Ga(t R e:TypeId)(i:TypeInfo)(O:P.underlying t=some (.slice e))(M:P.info? e=some i)
 (g C B D:Nat) (cur:Array Value) (L:w.heap[g]? =some (.cells cur e (0,0)))
 (a:Addr) (m c:Nat) (A:List Value) (N:A.length=m*i.size) (E:∀j u,A[j]? =some u->w.cell? (a.add j)=some u) (I:∀u∈A,u.oneCell'=true)
 (F:B+m<=D) (G:C+B*i.size+A.length<=cur.size):
 (Builtin.append_ #[t,t] R #[.slice (some ⟨g,C,none⟩) B D,.slice (some a) m c]).run P w=
  .ok (.slice (some ⟨g,C,none⟩) (B+m) D) (w.setRow g (cur.toList.take (C+B*i.size)++A++cur.toList.drop (C+B*i.size+A.length)).toArray):=by
 have J:=run_firstCells_some (P:=P) w i.size m a m c A N E;have H:=run_storeCells_at P g (C+B*i.size) e A 0 cur w L (by simpa using G) I;simp only[Nat.add_zero]at H;simp[Builtin.append_,run_underlying O,sizeOf,typeInfo,M,Builtin.lenOf,F,J,Addr.add_lit,H]
theorem Mw(t e:TypeId)(i:TypeInfo)(E:P.underlying t=some (.slice e))(D:P.info? e=some i)(a:Option Addr)(A B k:Nat)(F:k<=A):
 (Instr.slice t (.slice a A B) (some (.int .i64 (k:Int))) none none).run P w= .ok (.slice (if B=k then a else a.map (·.add (k*i.size))) (A - k) (B - k)) w:=by
 have h:¬A<k:=by omega
 simp[Instr.slice,run_underlying E,Instr.sliceBounds,Instr.sliceBound,asIntOf,sizeOf,typeInfo,D];exact fun C=>absurd C h
theorem Gv(base:Nat)(t b e:TypeId)(i:TypeInfo)(z:Value)(size J:Nat)(d:P.underlying t=some (.slice e))(q:P.info? e=some i)(hz:i.zero=some z)
 (U:i.size=size) (a7:i.bytes=J) (af:z.cells.size=size)
 (v:Value) (n:Nat) (xs:List Value) (B:aG w base e size v n xs)
 (a:Addr) (m c:Nat) (A:List Value) (N:A.length=m*size) (F:∀j u,A[j]? =some u->w.cell? (a.add j)=some u) (h1:∀u∈A,u.oneCell'=true)
 (W:n+m<=maxLen) (H:(n+m)*J<=140737488355328) (O:base<=w.heap.size):
 ∃v' w',(Builtin.append_ #[t,t] b #[v,.slice (some a) m c]).run P w= .ok v' w'/\aG w' base e size v' (n+m) (xs++A)/\w.grownBy w' v.ownBlock /\
  (v'.ownBlock=v.ownBlock\/v'.ownBlock=some w.heap.size):=by
 subst U;subst a7;have l:n+m<=9223372036854775807:=by simp only[maxLen]at W;omega
 have M:(xs++A).length=(n+m)*i.size:=by rw[acm,B.1,N,Nat.add_mul]
 have L:∀(D:Nat),D<n+m->∀(x:Option Nat),
  aG (w.drew.alloc (.cells (xs.toArray++A.toArray++Builtin.zeroCells z.cells (grownCap w (n+m) D e - (n+m))) e)) base e i.size
   (.slice (some ⟨w.heap.size,0,none⟩) (n+m) (grownCap w (n+m) D e)) (n+m) (xs++A) /\
  w.grownBy (w.drew.alloc (.cells (xs.toArray++A.toArray++Builtin.zeroCells z.cells (grownCap w (n+m) D e - (n+m))) e)) x:=by
  intro D ho x;have a8:=grownCap_ge w (n+m) D e;have R:grownCap w (n+m) D e<=maxLen:=grownCap_le_maxLen w (n+m) D e W;refine⟨⟨M,.inr ⟨w.heap.size,0,_,_,rfl,O,heap_alloc_new w.drew _,a8,R,?_,?_⟩⟩,⟨rfl,rfl,rfl,by simp,fun k Y _=>Below.heap_alloc w.drew _ k Y⟩⟩
  ·simp only[Array.size_append,List.size_toArray,size_zeroCells,af,B.1,N,<- Nat.add_mul]
   rw[Nat.zero_add];exact Nat.mul_le_mul_right _ (by omega)
  simp only[Array.toList_append,List.append_assoc,List.drop_zero];rw[<- List.append_assoc,<- M];exact List.take_left
 rcases B.2 with⟨rfl,rfl⟩| ⟨g,C,E,cur,rfl,a6,hg,ao,R,an,V⟩
 ·have hx:xs=[]:=List.eq_nil_of_length_eq_zero (by simpa using B.1)
  subst hx;by_cases hm:m=0
  ·subst hm
   have hn:A=[]:=List.eq_nil_of_length_eq_zero (by simpa using N);subst hn;refine⟨.slice none 0 0,w,?_,aG.nil w base e i.size,⟨rfl,rfl,rfl,ab9 _,fun _ _ _=>rfl⟩,.inl rfl⟩;simp[Builtin.append_,run_underlying d,sizeOf,typeInfo,q,Builtin.lenOf,Builtin.firstCells,loadCells,loadCellsFrom]
  have y:=run_append_nil (P:=P) w t b e i z d q hz a m c A N F (by omega) (by omega) (by have hb:=H;simp only[Nat.zero_add]at hb;omega);have I:=L 0 (by omega) (Value.ownBlock (.slice none 0 0));simp only[Nat.zero_add,List.nil_append,Array.empty_append]at I⊢;exact⟨_,_,y,I.1,I.2,.inr rfl⟩
 by_cases G:n+m<=E
 ·have X:C+n*i.size+A.length<=cur.size:=by
   rw[N];have h2:(n+m)*i.size<=E*i.size:=Nat.mul_le_mul_right _ G;rw[Nat.add_mul]at h2;omega
  have y:=Ga (P:=P) w t b e i d q g C n E cur hg a m c A N F h1 G X;refine⟨_,_,y,⟨M,.inr ⟨g,C,E,_,rfl,a6,setRow_heap w g cur _ e _ hg,G,R,?_,?_⟩⟩,⟨rfl,rfl,rfl,by simp,fun k _ Y=>setRow_other w g k _ (fun e=>Y (by simp[Value.ownBlock,e]))⟩,.inl rfl⟩
  ·simp only[List.size_toArray,acm,List.length_take,List.length_drop,Array.length_toList]
   omega
  rw[<- V,Nat.add_mul,<- N];have Z:C<=(cur.toList.take (C+n*i.size)).length:=by simp;omega
  rw[List.append_assoc,List.drop_append_of_le_length Z,List.drop_take,Nat.add_sub_cancel_left];have Y:(List.take (n*i.size) (List.drop C cur.toList)).length=n*i.size:=by simp;omega
  rw[<- List.append_assoc];exact List.take_left' (by rw[acm,Y])
 have T:∀j u,xs[j]? =some u->w.cell? ((⟨g,C,none⟩:Addr).add j)=some u:=by
  intro j u hu;have aa:j<n*i.size:=by rw[<- B.1];exact(acg.1 hu).1
  have ab:0<n:=Nat.pos_of_ne_zero (by rintro rfl;simp at aa);obtain⟨g',al,a1,ad,_,_,_,_,hc⟩:=B.form ab;cases ad
  rw[Addr.add_lit];exact hc j u hu
 have y:=run_append_grow (P:=P) w t b e i z d q hz ⟨g,C,none⟩ n E xs B.1 T a m c A N F (by omega) (by omega) (growslice_fits (by omega) H);have I:=L E (by omega) (Value.ownBlock (.slice (some ⟨g,C,none⟩) n E));exact⟨_,_,y,I.1,I.2,.inr rfl⟩
theorem fG{o:Oper}{a:Act}{K:Act->World->Prop}{Q:Exit->Act->World->Prop}(s x:Operand)(t:TypeId)
 (W:o.op= .call { callee:=.builtin .append,args:=#[s,x],argTypes:=#[t,t] })
 (base:Nat) (e:TypeId) (i:TypeInfo) (z:Value) (size B:Nat) (Z:P.underlying t=some (.slice e)) (U:P.info? e=some i) (q:i.zero=some z)
 (F:i.size=size) (L:i.bytes=B) (M:z.cells.size=size)
 (v:Value) (n:Nat) (xs:List Value) (Y:a.eval s=v) (H:aG w base e size v n xs)
 (I:Addr) (m c:Nat) (A:List Value) (y:a.eval x= .slice (some I) m c) (V:A.length=m*size) (E:∀j u,A[j]? =some u->w.cell? (I.add j)=some u) (N:∀u∈A,u.oneCell'=true)
 (J:n+m<=maxLen) (C:(n+m)*B<=140737488355328) (D:base<=w.heap.size)
 (h:∀G w',aG w' base e size G (n+m) (xs++A)->w.grownBy w' v.ownBlock->(G.ownBlock=v.ownBlock\/G.ownBlock=some w.heap.size)->K (a.put o.dst G) w'):o.wp P a w K Q:=by
 obtain⟨G,w',X,O,R,T⟩:=Gv (P:=P) w base t o.type e i z size B Z U q F L M v n xs H I m c A V E N J C D;unfold Oper.wp execOp;simp only[W,resolve,invoke,builtin,Sem.run_bind,Sem.run_pure,Result.andThen_ok,List.map_toArray,List.map_cons,List.map_nil,Y,y,X];exact h G w' O R T
theorem dW{ops:Array Oper}{rest:List Oper}{o:Oper}{a:Act}{Q:Exit->Act->World->Prop}(M:o.guard=none)(s x:Operand)(t:TypeId)
 (Y:o.op= .call { callee:=.builtin .append,args:=#[s,x],argTypes:=#[t,t] })
 (base:Nat) (e:TypeId) (i:TypeInfo) (z:Value) (size B:Nat) (y:P.underlying t=some (.slice e)) (W:P.info? e=some i) (l:i.zero=some z)
 (F:i.size=size) (L:i.bytes=B) (N:z.cells.size=size)
 (v:Value) (n:Nat) (xs:List Value) (Z:a.eval s=v) (H:aG w base e size v n xs)
 (I:Addr) (m c:Nat) (A:List Value) (q:a.eval x= .slice (some I) m c) (X:A.length=m*size) (E:∀j u,A[j]? =some u->w.cell? (I.add j)=some u) (O:∀u∈A,u.oneCell'=true)
 (J:n+m<=maxLen) (C:(n+m)*B<=140737488355328) (D:base<=w.heap.size)
 (h:∀G w',aG w' base e size G (n+m) (xs++A)->w.grownBy w' v.ownBlock->(G.ownBlock=v.ownBlock\/G.ownBlock=some w.heap.size)->wpList P ops Q rest (a.put o.dst G) w'):wpList P ops Q (o::rest) a w:=
 wpList_plain M fun _ V=>fG w s x t Y base e i z size B y W l F L N v n xs Z H I m c A q X E O J C D fun G w' R T U=>V _ _ (h G w' R T U)
theorem Fx{ops:Array Oper}{o:Oper}{a:Act}{K:Act->World->Prop}{Q:Exit->Act->World->Prop}{E:Prop}(N:o.guard=none)(s x:Operand)(t:TypeId)
 (V:o.op= .call { callee:=.builtin .append,args:=#[s,x],argTypes:=#[t,t] })
 (base:Nat) (e:TypeId) (i:TypeInfo) (z:Value) (size B:Nat) (X:P.underlying t=some (.slice e)) (T:P.info? e=some i) (y:i.zero=some z)
 (G:i.size=size) (M:i.bytes=B) (O:z.cells.size=size)
 (v:Value) (n:Nat) (xs:List Value) (W:a.eval s=v) (H:aG w base e size v n xs)
 (J:Addr) (m c:Nat) (A:List Value) (Z:a.eval x= .slice (some J) m c) (U:A.length=m*size) (F:∀j u,A[j]? =some u->w.cell? (J.add j)=some u) (R:∀u∈A,u.oneCell'=true)
 (L:n+m<=maxLen) (C:(n+m)*B<=140737488355328) (D:base<=w.heap.size)
 (h:∀I w',aG w' base e size I (n+m) (xs++A)->w.grownBy w' v.ownBlock->(I.ownBlock=v.ownBlock\/I.ownBlock=some w.heap.size)->K (a.put o.dst I) w'):
 if Region.wanted o (yielded ops a.tmps)=true then Oper.wp P o a w K Q else E:=by
 have Y:Region.wanted o (yielded ops a.tmps)=true:=by simp[Region.wanted,N]
 rw[if_pos Y];exact fG w s x t V base e i z size B X T y G M O v n xs W H J m c A Z U F R L C D h
end
def jA(k:Int)(e:MapEntry):Bool:=
 match e.key with
 | .int .i64 j=>decide (k=j)
 | _=>false
def yG(es:List MapEntry)(k:Int):Option Value:=(es.find? (jA k)).map (·.val)
def xX(es:List MapEntry):Prop:=∀e∈es,∃k,e.key= .int .i64 k
theorem Ta(k:Int):∀(A:List MapEntry) (i:Nat),xX A ->
 Instr.findNow (.int .i64) (.int .i64 k) A i=some ((A.findIdx? (jA k)).bind fun j=>(A[j]?).map fun e=>(i+j,e.val)):=by
 intro A
 induction A with
 | nil=>intro i _;rfl
 | cons e A ih=>
  intro i E;obtain⟨j,C⟩:=E e (by simp);have B:xX A:=fun e G=>E e (by simp[G])
  by_cases h:k=j
  ·subst h
   simp[Instr.findNow,Instr.sameNow,C,jA,List.findIdx?_cons]
  have F:(k==j)=false:=by simpa using h
  simp only[Instr.findNow,Instr.sameNow,C,if_true,F];rw[ih (i+1) B];have D:jA k e=false:=by simp[jA,C,h]
  simp only[List.findIdx?_cons,D,Bool.false_eq_true,if_false]
  cases H:A.findIdx? (jA k) with
  | none=>rfl
  | some x=>simp[Nat.add_comm,Nat.add_left_comm]
def iQ(w:World)(r:Nat)(f:Int->Option Value):Prop:=
 ∃es clock,w.heap[r]? =some (.map es clock)/\xX es.toList/\∀k,yG es.toList k=f k
section
variable {w w':World}{r:Nat}{f:Int->Option Value}
theorem iQ.keep(h:iQ w r f)(E:w'.heap[r]? =w.heap[r]?):iQ w' r f:=by
 obtain⟨B,A,C,D⟩:=h;exact⟨B,A,E.trans C,D⟩
theorem iQ.lt(h:iQ w r f):r<w.heap.size:=by
 obtain⟨C,A,B,_⟩:=h;exact(acd.1 B).1
theorem iQ.alloc(h:iQ w r f)(o:Obj):iQ (w.alloc o) r f:=h.keep (Below.heap_alloc w o r h.lt)
theorem iQ.below{B:Nat}(h:iQ w r f)(A:Below B w w')(C:r<B):iQ w' r f:=h.keep (A.block r C)
theorem iQ.grown{A:Option Nat}(h:iQ w r f)(B:w.grownBy w' A)(C:some r≠A):iQ w' r f:=h.keep (B.block r h.lt C)
theorem iQ.made(w:World):iQ (w.alloc (.map #[] 0)) w.heap.size (fun _=>none):=⟨#[],0,heap_alloc_new w _,by intro e A;simp at A,fun k=>rfl⟩
end
section
variable {P:Program}{w:World}{t kt et:TypeId}{r:Nat}{f:Int->Option Value}
theorem wH(B:P.underlying kt=some (.int .i64))(k:Int)(A:List MapEntry)(h:xX A)(w:World):
 (Instr.findKey kt (.int .i64 k) A).run P w= .ok ((A.findIdx? (jA k)).bind fun j=>(A[j]?).map fun e=>(j,e.val)) w:=by
 simp[Instr.findKey,run_underlying B,Ta k A 0 h]
theorem uX(b:Bool)(n:Nat)(A:P.underlying kt=some (.int .i64))(k:Int)(w:World):(Instr.checkKey b (n+1) kt (.int .i64 k)).run P w= .ok () w:=by
 simp[Instr.checkKey,run_underlying A]
theorem Xv(A:List MapEntry)(k:Int):yG A k=(A.findIdx? (jA k)).bind fun j=>(A[j]?).map (·.val):=by
 unfold yG
 induction A with
 | nil=>rfl
 | cons e A ih=>
  by_cases h:jA k e=true
  ·simp[List.findIdx?_cons,h]
  simp only[List.find?_cons,List.findIdx?_cons,h,if_false,Bool.false_eq_true];rw[ih];cases A.findIdx? (jA k)<;>simp
theorem xR(L:P.underlying t=some (.map kt et))(G:P.underlying kt=some (.int .i64)){z:Value}(M:∀w,(zeroValue et).run P w= .ok z w)(h:iQ w r f)(k:Int):
 (Instr.lookup t (.map (some r)) (.int .i64 k) false).run P w= .ok ((f k).getD z) w:=by
 obtain⟨B,C,H,I,J⟩:=h;have A:=J k;rw[Xv]at A;simp[Instr.lookup,run_underlying L,MapKept.run_getObj_map H,uX _ _ G,wH G k B.toList I]
 cases E:B.toList.findIdx? (jA k) with
 | none=>
  rw[E]at A;simp at A;rw[<- A];simp[M]
 | some j=>
  rw[E]at A
  have F:j<B.toList.length:=by
   have:=List.findIdx?_eq_some_iff_getElem.1 E;exact this.1
  simp only[Option.bind_some,ace F,Option.map_some]at A⊢;rw[<- A];have D:j<B.size:=by simpa using F
  simp[Array.getElem?_eq_getElem D]
theorem Am(e:MapEntry)(A:List MapEntry)(k:Int):yG (e::A) k=if jA k e=true then some e.val else yG A k:=by
 unfold yG;by_cases h:jA k e=true
 ·simp[h]
 simp[h]
theorem Pq(k j:Int)(v:Value):∀(B:List MapEntry) (i:Nat),B.findIdx? (jA k)=some i->xX B ->
 yG (B.modify i fun e=> { e with key:=.int .i64 k,val:=v }) j=if j=k then some v else yG B j:=by
 intro B
 induction B with
 | nil=>intro i h;simp at h
 | cons e B ih=>
  intro i h G;obtain⟨q,H⟩:=G e (by simp);rw[List.findIdx?_cons]at h;by_cases A:jA k e=true
  ·rw[if_pos A]at h
   cases h
   have D:k=q:=by
    unfold jA at A;rw[H]at A;simpa using A
   subst D;rw[List.modify_zero_cons,Am,Am];have I:jA j { e with key:=.int .i64 k,val:=v }=decide (j=k):=rfl;have J:jA j e=decide (j=k):=by unfold jA;rw[H]
   rw[I,J];by_cases C:j=k<;>simp[C]
  rw[if_neg A]at h
  cases E:B.findIdx? (jA k) with
  | none=>rw[E]at h;cases h
  | some i'=>
   rw[E]at h;cases h
   rw[List.modify_succ_cons,Am,Am,ih i' E (fun e L=>G e (by simp[L]))];by_cases F:jA j e=true
   ·have C:j≠k:=by rintro rfl;exact A F
    simp[F,C]
   simp[F]
theorem ML(k:Int)(v:Value):∀(B:List MapEntry) (i:Nat),xX B->xX (B.modify i fun e=> { e with key:=.int .i64 k,val:=v }):=by
 intro B
 induction B with
 | nil=>intro i h;simpa using h
 | cons e B ih=>
  intro i h
  cases i with
  | zero=>
   intro x A;rw[List.modify_zero_cons]at A;rcases List.mem_cons.1 A with rfl|A
   ·exact⟨k,rfl⟩
   exact h x (by simp[A])
  | succ i=>
   intro x A;rw[List.modify_succ_cons]at A;rcases List.mem_cons.1 A with rfl|A
   ·exact h x (by simp)
   exact ih i (fun e C=>h e (by simp[C])) x A
theorem IE(X:P.underlying t=some (.map kt et))(R:P.underlying kt=some (.int .i64))(h:iQ w r f)(k:Int)(v:Value):
 ∃T,(Instr.mapUpdate t (.map (some r)) (.int .i64 k) v).run P w= .ok () T/\iQ T r (fun j=>if j=k then some v else f j)/\w.grownBy T (some r)/\T.heap.size=w.heap.size:=by
 obtain⟨B,A,G,E,W⟩:=h;have V:r<w.heap.size:=(acd.1 G).1
 have I:∀o:Obj,w.grownBy { w with heap:=w.heap.setIfInBounds r o } (some r):=fun o=>
  ⟨rfl,rfl,rfl,by simp,fun i _ U=>by simp[Array.getElem?_setIfInBounds];intro e;exact absurd (by rw[e]) U⟩
 have H:∀o:Obj,({ w with heap:=w.heap.setIfInBounds r o }:World).heap[r]? =some o:=fun o=>by simp[V]
 cases N:B.toList.findIdx? (jA k) with
 | none=>
  refine⟨{ w with heap:=w.heap.setIfInBounds r (.map (B.push { key:=.int .i64 k,val:=v,born:=A }) (A+1)) },?_,⟨_,_,H _,?_,?_⟩,I _,by simp⟩
  ·simp[Instr.mapUpdate,run_underlying X,MapKept.run_getObj_map G,uX _ _ R,wH R k B.toList E,N,MapKept.run_setObj_map _ G]
  ·intro e O
   simp at O;rcases O with O|rfl
   ·exact E e (by simpa using O)
   exact⟨k,rfl⟩
  intro j;have Z:∀e∈B.toList,jA k e=false:=by simpa using N
  by_cases F:j=k
  ·subst F
   have:B.toList.find? (jA j)=none:=by simpa using Z
   simp[yG,List.find?_append,this,jA]
  have z:jA j ⟨.int .i64 k,v,A⟩=false:=by simp[jA,F]
  simp only[if_neg F,<- W j,yG,Array.toList_push,List.find?_append,List.find?_cons,z,List.find?_nil,Option.or_none]
 | some i=>
  have U:=List.findIdx?_eq_some_iff_getElem.1 N;obtain⟨J,C,Y⟩:=U
  have M:B.toList[i].key= .int .i64 k:=by
   obtain⟨j,F⟩:=E _ (List.getElem_mem J);rw[F];unfold jA at C;rw[F]at C;simp at C;rw[C]
  have L:i<B.size:=by simpa using J
  have D:B[i].key= .int .i64 k:=by simpa using M
  refine⟨{ w with heap:=w.heap.setIfInBounds r (.map (B.modify i fun e=> { e with key:=.int .i64 k,val:=v }) A) },?_,⟨_,_,H _,?_,?_⟩,I _,by simp⟩
  ·simp[Instr.mapUpdate,run_underlying X,MapKept.run_getObj_map G,uX _ _ R,wH R k B.toList E,N,MapKept.run_setObj_map _ G,Instr.keyThatStays,Instr.sameBits,L,D]
  ·rw[Array.toList_modify]
   exact ML k v _ _ E
  intro j;rw[Array.toList_modify,Pq k j v _ _ N E,W]
end
structure ak (S:Nat->Prop) (w w':World):Prop where
 os:w'.os=w.os
 tape:w'.tape=w.tape
 output:w'.output=w.output
 size:w.heap.size<=w'.heap.size
 block:∀k,k<w.heap.size->¬S k->w'.heap[k]? =w.heap[k]?
section
variable {S:Nat->Prop}{a w w':World}
theorem ak.refl(S:Nat->Prop)(w:World):ak S w w:=⟨rfl,rfl,rfl,ab9 _,fun _ _ _=>rfl⟩
theorem ak.trans{b c:World}(h:ak S a b)(k:ak S b c):ak S a c:=
 ⟨k.os.trans h.os,k.tape.trans h.tape,k.output.trans h.output,aca h.size k.size,fun i A B=>(k.block i (Nat.lt_of_lt_of_le A h.size) B).trans (h.block i A B)⟩
theorem ak.drew(h:ak S a w):ak S a w.drew:=⟨h.os,h.tape,h.output,h.size,h.block⟩
theorem ak.alloc(h:ak S a w)(o:Obj):ak S a (w.alloc o):=
 ⟨h.os,h.tape,h.output,aca h.size (by simp),fun i A B=>(Below.heap_alloc w o i (Nat.lt_of_lt_of_le A h.size)).trans (h.block i A B)⟩
theorem ak.setCell(h:ak S a w){p:Addr}(A:S p.block\/a.heap.size<=p.block)(u:Value):ak S a (w.setCell p u):=
 ⟨h.os,h.tape,h.output,by simpa [World.setCell] using h.size,fun i C B=>(Below.heap_setCell w p u i (by
  rintro rfl;rcases A with A|A
  ·exact B A
  omega)).trans (h.block i C B)⟩
theorem ak.grown{B:Option Nat}(h:ak S a w)(A:w.grownBy w' B)(F:∀k,B=some k->S k\/a.heap.size<=k):ak S a w':=
 ⟨A.os.trans h.os,A.tape.trans h.tape,A.output.trans h.output,aca h.size A.size,fun i D E=>(A.block i (Nat.lt_of_lt_of_le D h.size) (fun e=>by
  rcases F i e.symm with C|C
  ·exact E C
  omega)).trans (h.block i D E)⟩
theorem ak.below(h:ak S a w)(A:Below w.heap.size w w'):ak S a w':=
 ⟨A.os.trans h.os,A.tape.trans h.tape,A.output.trans h.output,aca h.size A.size,fun i B C=>(A.block i (Nat.lt_of_lt_of_le B h.size)).trans (h.block i B C)⟩
theorem ak.toBelow{B:Nat}(h:ak S a w)(D:B<=a.heap.size)(A:∀k,S k->B<=k):Below B a w:=
 ⟨h.os,h.tape,h.output,h.size,fun i E=>h.block i (by omega) (fun C=>by have:=A i C;omega)⟩
theorem ak.mono{A:Nat->Prop}(h:ak S a w)(C:∀k,S k->A k):ak A a w:=⟨h.os,h.tape,h.output,h.size,fun i D E=>h.block i D (fun B=>E (C i B))⟩
theorem ah.since{g:Nat}{t:TypeId}{cs:Array Value}(h:ah w g t cs)(B:ak S w w')(A:¬S g):ah w' g t cs:=h.keep (B.block g h.lt A)
theorem aG.since{base:Nat}{e:TypeId}{size:Nat}{v:Value}{n:Nat}{xs:List Value}(h:aG w base e size v n xs)(C:ak S w w')(B:∀g,v.ownBlock=some g->¬S g):aG w' base e size v n xs:=
 h.of_block fun g A=>C.block g (h.lt g A).2 (B g A)
end
theorem aG.apart{w:World}{base base':Nat}{e J:TypeId}{size C:Nat}{v M:Value}{n O:Nat}{xs G:List Value}(h:aG w base e size v n xs)(N:aG w base' J C M O G)(E:e≠J):
 ∀g,v.ownBlock=some g->M.ownBlock≠some g:=by
 intro g F B;rcases h.2 with⟨rfl,_⟩| ⟨V,U,T,R,rfl,_,D,_⟩
 ·cases F
 rcases N.2 with⟨rfl,_⟩| ⟨W,L,H,I,rfl,_,A,_⟩
 ·cases B
 simp[Value.ownBlock]at F B;subst F;subst B;rw[D]at A;simp at A;exact E A.2
theorem ak.step{S A:Nat->Prop}{a b c:World}(h:ak S a b)(k:ak A b c)(F:∀g,A g->S g\/a.heap.size<=g):ak S a c:=
 ⟨k.os.trans h.os,k.tape.trans h.tape,k.output.trans h.output,aca h.size k.size,fun i C D=>(k.block i (Nat.lt_of_lt_of_le C h.size) (fun E=>by
  rcases F i E with B|B
  ·exact D B
  omega)).trans (h.block i C D)⟩
theorem ah.U5{w:World}{g:Nat}{t:TypeId}{a b c:Value}(h:ah w g t #[a,b,c])(x y z:Value):ah (((w.setCell ⟨g,0,none⟩ x).setCell ⟨g,1,none⟩ y).setCell ⟨g,2,none⟩ z) g t #[x,y,z]:=by
 have:=((h.dB 0 x).dB 1 y).dB 2 z;simpa using this
theorem lU(w:World)(g:Nat)(u:Value)(h:w.cell? ⟨g,0,none⟩=some u):∀j v,[u][j]? =some v->w.cell? ((⟨g,0,none⟩:Addr).add j)=some v:=by
 intro j v A
 cases j with
 | zero=>simp at A;subst A;exact h
 | succ j=>simp at A
theorem ai(w:World)(o:Obj):Below w.heap.size w (w.alloc o):=(Below.refl _ _).alloc (ab9 _) _
theorem aS.later{C:Type}{size:Nat}{cells:C->List Value}{w w':World}{A:Option Addr}{l:List C}(h:aS size cells w w.heap.size A l)(B:Below w.heap.size w w'):aS size cells w' w'.heap.size A l:=(h.below B (ab9 _)).mono B.size
theorem aG.bB{w:World}{base:Nat}{e:TypeId}{size:Nat}{v:Value}{n:Nat}{xs:List Value}(h:aG w base e size v n xs){g:Nat}{t:TypeId}{cs:Array Value}(C:ah w g t cs)(B:e≠t):v.ownBlock≠some g:=by
 intro D;rcases h.2 with⟨rfl,_⟩| ⟨F,I,H,G,rfl,_,A,_⟩
 ·cases D
 have E:F=g:=by simpa [Value.ownBlock] using D
 subst E;unfold ah at C;rw[C]at A;simp at A;exact B A.2.symm
section
variable {P:Program}(w:World)
theorem Bf(base:Nat)(t Z e:TypeId)(i:TypeInfo)(z:Value)(size C:Nat)(U:P.underlying t=some (.slice e))(O:P.info? e=some i)(hz:i.zero=some z)
 (H:i.size=size) (N:i.bytes=C) (W:z.cells.size=size) (T:0<size)
 (v:Value) (n:Nat) (xs:List Value) (D:aG w base e size v n xs)
 (A:Option Addr) (m c:Nat) (B:List Value) (Y:B.length=m*size) (E:∀j u,B[j]? =some u->∃a,A=some a/\w.cell? (a.add j)=some u) (y:∀u∈B,u.oneCell'=true)
 (L:n+m<=maxLen) (F:(n+m)*C<=140737488355328) (G:base<=w.heap.size):
 ∃I w',(Builtin.append_ #[t,t] Z #[v,.slice A m c]).run P w= .ok I w'/\aG w' base e size I (n+m) (xs++B)/\w.grownBy w' v.ownBlock /\
  (I.ownBlock=v.ownBlock\/I.ownBlock=some w.heap.size):=by
 cases A with
 | some a=>
  refine Gv w base t Z e i z size C U O hz H N W v n xs D a m c B Y (fun j u hu=>?_) y L F G;obtain⟨a',M,q⟩:=E j u hu;cases M
  exact q
 | none=>
  have b:B=[]:=by
   cases B with
   | nil=>rfl
   | cons u us=>
    obtain⟨a,M,_⟩:=E 0 u rfl;cases M
  subst b
  have d:m=0:=by
   rcases Nat.eq_zero_or_pos m with h|h
   ·exact h
   have:=Nat.mul_pos h T;simp at Y;omega
  subst d;rcases D.2 with⟨rfl,rfl⟩| ⟨g,X,J,cur,rfl,x,hg,R,l,k,V⟩
  ·refine⟨.slice none 0 0,w,?_,by simpa using D,⟨rfl,rfl,rfl,ab9 _,fun _ _ _=>rfl⟩,.inl rfl⟩
   simp[Builtin.append_,run_underlying U,sizeOf,typeInfo,O,Builtin.lenOf,Builtin.firstCells]
  refine⟨.slice (some ⟨g,X,none⟩) n J,w,?_,by simpa using D,⟨rfl,rfl,rfl,ab9 _,fun _ _ _=>rfl⟩,.inl rfl⟩;simp[Builtin.append_,run_underlying U,sizeOf,typeInfo,O,Builtin.lenOf,Builtin.firstCells,R,storeCells]
theorem OL{ops:Array Oper}{o:Oper}{a:Act}{K:Act->World->Prop}{Q:Exit->Act->World->Prop}{E:Prop}(N:o.guard=none)(s x:Operand)(t:TypeId)
 (Z:o.op= .call { callee:=.builtin .append,args:=#[s,x],argTypes:=#[t,t] })
 (base:Nat) (e:TypeId) (i:TypeInfo) (z:Value) (size C:Nat) (l:P.underlying t=some (.slice e)) (X:P.info? e=some i) (b:i.zero=some z)
 (H:i.size=size) (M:i.bytes=C) (R:z.cells.size=size) (O:0<size)
 (v:Value) (n:Nat) (xs:List Value) (q:a.eval s=v) (J:aG w base e size v n xs)
 (A:Option Addr) (m c:Nat) (B:List Value) (d:a.eval x= .slice A m c) (Y:B.length=m*size) (G:∀j u,B[j]? =some u->∃a,A=some a/\w.cell? (a.add j)=some u) (T:∀u∈B,u.oneCell'=true)
 (L:n+m<=maxLen) (D:(n+m)*C<=140737488355328) (F:base<=w.heap.size)
 (h:∀I w',aG w' base e size I (n+m) (xs++B)->w.grownBy w' v.ownBlock->(I.ownBlock=v.ownBlock\/I.ownBlock=some w.heap.size)->K (a.put o.dst I) w'):
 if Region.wanted o (yielded ops a.tmps)=true then Oper.wp P o a w K Q else E:=by
 have k:Region.wanted o (yielded ops a.tmps)=true:=by simp[Region.wanted,N]
 rw[if_pos k];obtain⟨I,w',y,U,V,W⟩:=Bf (P:=P) w base t o.type e i z size C l X b H M R O v n xs J A m c B Y G T L D F;unfold Oper.wp execOp;simp only[Z,resolve,invoke,builtin,Sem.run_bind,Sem.run_pure,Result.andThen_ok,List.map_toArray,List.map_cons,List.map_nil,q,d,y];exact h I w' U V W
end
section
variable {P:Program}(w:World)
theorem Kr{ops:Array Oper}{rest:List Oper}{o:Oper}{a:Act}{Q:Exit->Act->World->Prop}(M:o.guard=none)(s x:Operand)(t:TypeId)
 (Z:o.op= .call { callee:=.builtin .append,args:=#[s,x],argTypes:=#[t,t] })
 (base:Nat) (e:TypeId) (i:TypeInfo) (z:Value) (size C:Nat) (l:P.underlying t=some (.slice e)) (X:P.info? e=some i) (d:i.zero=some z)
 (G:i.size=size) (L:i.bytes=C) (O:z.cells.size=size) (N:0<size)
 (v:Value) (n:Nat) (xs:List Value) (q:a.eval s=v) (I:aG w base e size v n xs)
 (A:Option Addr) (m c:Nat) (B:List Value) (k:a.eval x= .slice A m c) (Y:B.length=m*size) (F:∀j u,B[j]? =some u->∃a,A=some a/\w.cell? (a.add j)=some u) (R:∀u∈B,u.oneCell'=true)
 (J:n+m<=maxLen) (D:(n+m)*C<=140737488355328) (E:base<=w.heap.size)
 (h:∀H w',aG w' base e size H (n+m) (xs++B)->w.grownBy w' v.ownBlock->(H.ownBlock=v.ownBlock\/H.ownBlock=some w.heap.size)->wpList P ops Q rest (a.put o.dst H) w'):wpList P ops Q (o::rest) a w:=
 wpList_plain M fun _ W=>by
  obtain⟨H,w',y,T,U,V⟩:=Bf (P:=P) w base t o.type e i z size C l X d G L O N v n xs I A m c B Y F R J D E;unfold Oper.wp execOp;simp only[Z,resolve,invoke,builtin,Sem.run_bind,Sem.run_pure,Result.andThen_ok,List.map_toArray,List.map_cons,List.map_nil,q,k,y];exact W _ _ (h H w' T U V)
end
end Go.Proofs.YtoepemlnlpamlaaGreat
namespace Go.Proofs.YtoepemlnlpamlaaGreat
abbrev kM:=List UInt8
def sP(l:kM):ByteArray:=⟨l.toArray⟩
def bz(s:kM)(i:Nat):Nat:=(s.getD i 0).toNat
def sub(s:kM)(a b:Nat):kM:=(s.drop a).take (b - a)
def j6(c:Nat):Bool:=decide (97<=c)&&decide (c<=122)
def eH(c:Nat):Bool:=decide (48<=c)&&decide (c<=57)
def zm(c:Nat):Bool:=decide (c=9) || decide (c=10) || decide (c=13) || decide (c=32)
def xH(c:Nat):Bool:=j6 c || eH c || decide (c=95)
def Qu:List kM:=[[114,101,99,111,114,100],[112,114,111,99],[118,97,114],[105,102],[101,108,115,101],[119,104,105,108,101],[102,111,114],[116,111],[114,101,116,117,114,110],[97,115,115,101,114,116],[97,110,100],[111,114],[110,111,116],[116,114,117,101],[102,97,108,115,101],[105,110,116],[98,111,111,108],[108,101,110]]
def PD:List kM:=[[61,61],[33,61],[60,61],[62,61]]
def IL:List kM:=[[60],[62],[61],[43],[45],[42],[47],[37],[40],[41],[123],[125],[91],[93],[44],[59],[58],[46]]
def wW(l:List kM)(s:kM):Bool:=l.any fun x=>decide (x=s)
def I6(s:kM):Bool:=wW Qu s
def Cz(s:kM)(at_:Nat):Nat:=
 if decide (at_+2<=s.length)&&wW PD (sub s at_ (at_+2)) then 2 else if wW IL (sub s at_ (at_+1)) then 1 else 0
def vS(s:kM)(at_:Nat):Bool:=j6 (bz s at_) || eH (bz s at_) || decide (0<Cz s at_)
def jU(p:Nat->Bool):kM->Nat->Nat->Nat
 | _,0,a=>a
 | s,f+1,a=>if decide (a<s.length)&&p a then jU p s f (a+1) else a
def nI(s:kM)(a:Nat):Nat×Nat:=
 if j6 (bz s a) then
  (if I6 (sub s a (jU (fun i=>xH (bz s i)) s s.length a)) then 1 else 0,jU (fun i=>xH (bz s i)) s s.length a)
 else if eH (bz s a) then(2,jU (fun i=>eH (bz s i)) s s.length a)
 else if 0<Cz s a then(3,a+Cz s a)
 else(4,jU (fun i=> !zm (bz s i)&& !decide (bz s i=35)&& !vS s i) s s.length a)
def rZ:kM->Nat->Option Nat
 | [],n=>some n
 | c::r,n=>if eH c.toNat then rZ r (10*n+(c.toNat - 48)) else none
def dE(s:kM):Option Nat:=if s.length<1\/9<s.length then none else rZ s 0
def qA(s:kM):Bool:=decide (1<=s.length)&&decide (s.length<=16)&&j6 (bz s 0)&& !I6 s&&decide ((nI s 0).2=s.length)
section
variable {p:Nat->Bool}{s:kM}
theorem MC:∀(f A a:Nat),A<=a->a<=s.length->(∀j,A<=j->j<a->p j=true)->(a<s.length->p a=false)->s.length<=f+A->jU p s f A=a:=by
 intro f
 induction f with
 | zero=>
  intro A a G C _ _ H;have:A=a:=by omega
  subst this;rfl
 | succ f ih=>
  intro A a G C D E H;unfold jU;by_cases h:A=a
  ·subst h
   by_cases F:A<s.length
   ·rw[E F];simp
   simp[F]
  have I:=D A (ab9 _) (by omega);rw[I,decide_eq_true (by omega:A<s.length),Bool.and_true,if_pos rfl];exact ih (A+1) a (by omega) C (fun j J B=>D j (by omega) B) E (by omega)
theorem symM_le(a:Nat):Cz s a<=2:=by unfold Cz;split<;>(try split)<;>omega
end
open Go.RowKit
theorem bE{a b:Bool}(h:a=b):Ending.returned (.bool a)= .returned (.bool b):=by rw[h]
theorem Ct(c:Nat)(w:World):Calls Tryz.prog 226 #[.int .u8 (c:Int)] w fun e w'=>e= .returned (.bool (zm c))/\w=w':=by
 by_cases A:c=9
 ·subst A
  go_in
  go_wp2
  go_ret
  exact⟨rfl,rfl⟩
 by_cases B:c=10
 ·subst B
  go_in
  go_wp2
  go_ret
  exact⟨rfl,rfl⟩
 by_cases C:c=13
 ·subst C
  go_in
  go_wp2
  go_ret
  exact⟨rfl,rfl⟩
 have L:((c:Int)==9)=false:=by simp;omega
 have M:((c:Int)==10)=false:=by simp;omega
 have N:((c:Int)==13)=false:=by simp;omega
 have E:decide (c=9)=false:=by simp[A]
 have F:decide (c=10)=false:=by simp[B]
 have G:decide (c=13)=false:=by simp[C]
 clear A B C;by_cases D:c=32
 ·subst D
  go_in
  go_wp2
  go_ret
  exact⟨rfl,rfl⟩
 have O:((c:Int)==32)=false:=by simp;omega
 have H:decide (c=32)=false:=by simp[D]
 have I:zm c=false:=by simp[zm,E,F,G,H]
 have J:=kH I;clear E F G H D I;go_in
 go_wp2
 go_ret
 exact⟨bE J.out.symm,rfl⟩
theorem kJ(c:Nat)(w:World):Calls Tryz.prog 227 #[.int .u8 (c:Int)] w fun e w'=>e= .returned (.bool (j6 c))/\w=w':=by
 by_cases C:97<=c
 ·have A:(97:Int)<=(c:Int):=by omega
  by_cases D:c<=122
  ·have B:(c:Int)<=122:=by omega
   go_in
   go_wp2
   go_ret
   exact⟨bE (by simp[j6,C,D]),rfl⟩
  have B:¬(c:Int)<=122:=by omega
  go_in
  go_wp2
  go_ret
  exact⟨bE (by simp[j6,D]),rfl⟩
 have A:¬(97:Int)<=(c:Int):=by omega
 go_in
 go_wp2
 go_ret
 exact⟨bE (by simp[j6,C]),rfl⟩
theorem mh(c:Nat)(w:World):Calls Tryz.prog 184 #[.int .u8 (c:Int)] w fun e w'=>e= .returned (.bool (eH c))/\w=w':=by
 by_cases C:48<=c
 ·have A:(48:Int)<=(c:Int):=by omega
  by_cases D:c<=57
  ·have B:(c:Int)<=57:=by omega
   go_in
   go_wp2
   go_ret
   exact⟨bE (by simp[eH,C,D]),rfl⟩
  have B:¬(c:Int)<=57:=by omega
  go_in
  go_wp2
  go_ret
  exact⟨bE (by simp[eH,D]),rfl⟩
 have A:¬(48:Int)<=(c:Int):=by omega
 go_in
 go_wp2
 go_ret
 exact⟨bE (by simp[eH,C]),rfl⟩
def fH(l:List ByteArray)(x:ByteArray):Bool:=l.any fun b=>b.toList==x.toList
def nE(b:ByteArray):List Value:=[.string b]
theorem Vn(l:kM):(sP l).toList=l:=by simp[sP,ByteArray.toList_eq]
theorem M0(A:List kM)(x:ByteArray):fH (A.map sP) x=wW A x.data.toList:=by
 unfold fH wW;rw[List.any_map];congr 1
 funext b
 simp only[Function.comp];rw[Vn,ByteArray.toList_eq,Bool.eq_iff_iff];simp
theorem AY(L:Option Addr)(B Z:Nat)(l:List ByteArray)(x:ByteArray)(w:World)(T:aS 1 nE w w.heap.size L l)(E:l.length=B)(hn:B<=1000000):
 Calls Tryz.prog 88 #[.slice L B Z,.string x] w fun e w'=>e= .returned (.bool (fH l x))/\Below w.heap.size w w':=by
 have X:=kH T;have J:=kH E;clear T E;go_in
 go_wp2_with fail
 go_loopg [5] B (fun gk s wr=> ∃k:Nat,k+gk=B/\s= .int .i64 k/\Below w.heap.size w wr/\fH (l.take k) x=false)
 case atStart=>exact⟨0,by omega,rfl,Below.refl _ _,rfl⟩
 obtain⟨k,U,rfl,z,V⟩:=hrel;have j:k<=B:=by omega
 have M:=kH U;have O:=kH V;clear U V;by_cases F:k<B
 ·have C:l[k]? =some (l[k]'(by rw[J.out];exact F)):=ace _
  generalize l[k]'(by rw[J.out];exact F)=y at C
  obtain⟨Y,o1,I,u,D⟩:=(X.out.below z (ab9 _)) k _ C;subst I;have hx:wr.cell? ⟨Y,o1+k,none⟩=some (.string y):=by simpa using D 0 _ rfl
  have d:(k:Int)<(B:Int):=by omega
  have G:fH (l.take (k+1)) x=(y.toList==x.toList):=by
   have R:=O.out;unfold fH at R⊢;rw[List.take_add_one,C,List.any_append,R];simp
  have W:=kH C;have b:=kH G;clear D C G;obtain⟨q, c⟩:=ag ((y.toList==x.toList));have N:=kH c;cases q
  ·go_wp2_with fail
   go_roundg (gk - 1)
   case measure=>have:=M.out;omega
   exact⟨k+1,by have:=M.out;omega,by go_num,by(repeat first|exact .refl _ _|assumption|refine .trans ?_ (.mono (by assumption) ?_)|refine .alloc ?_ ?_ _|refine .setCell ?_ ?_ _|refine .drew ?_|refine aL ?_ _|omega|(simp<;>omega)),by rw[b.out];exact N.out⟩
  have A:fH l x=true:=by
   unfold fH;rw[List.any_eq_true];exact⟨y,acn W.out,N.out⟩
  have H:=kH A;clear A;go_wp2_with fail
  go_ret
  rw[H.out];exact⟨rfl,by(repeat first|exact .refl _ _|assumption|refine .trans ?_ (.mono (by assumption) ?_)|refine .alloc ?_ ?_ _|refine .setCell ?_ ?_ _|refine .drew ?_|refine aL ?_ _|omega|(simp<;>omega))⟩
 have A:fH l x=false:=by
  have h:=O.out;rw[List.take_of_length_le (by rw[J.out];omega)]at h;exact h
 have H:=kH A;clear A;go_wp2_with fail
 go_ret
 rw[H.out];exact⟨rfl,by(repeat first|exact .refl _ _|assumption|refine .trans ?_ (.mono (by assumption) ?_)|refine .alloc ?_ ?_ _|refine .setCell ?_ ?_ _|refine .drew ?_|refine aL ?_ _|omega|(simp<;>omega))⟩
theorem Ep(w:World)(C:TypeId)(A:List kM):aS 1 nE (w.alloc (.cells (A.map fun b=>Value.string (sP b)).toArray C)) (w.alloc (.cells (A.map fun b=>Value.string (sP b)).toArray C)).heap.size (some ⟨w.heap.size,0,none⟩) (A.map sP):=by
 intro k c D;refine⟨w.heap.size,0,rfl,by simp,fun j v B=>?_⟩;have F:=ah.new w C (A.map fun b=>Value.string (sP b)).toArray;rw[F.cell]
 cases j with
 | zero=>
  simp[nE]at B;subst B;simp at D⊢;obtain⟨a,E,rfl⟩:=D;exact⟨a,E,rfl⟩
 | succ j=>simp[nE]at B
theorem M3(s:ByteArray)(a b:Nat):(s.extract a b).data.toList=sub s.data.toList a b:=by
 rw[Lib.extract_data];unfold sub;simp
theorem Jo(x:ByteArray)(w:World):Calls Tryz.prog 228 #[.string x] w fun e w'=>e= .returned (.bool (I6 x.data.toList))/\Below w.heap.size w w':=by
 go_in
 go_wp2_with fail
 refine(AY (some ⟨w.heap.size,0,none⟩) 18 18 (Qu.map sP) x _ (Ep w 9 Qu) rfl (by omega)).mono ?_;rintro e C ⟨rfl,A⟩;go_wp2_with fail
 go_ret
 refine⟨bE (by rw[M0];rfl),?_⟩;have B:=ai w (.cells (Qu.map fun b=>Value.string (sP b)).toArray 9);exact B.trans (A.mono (by simp))
theorem oQ(s:ByteArray)(i:Nat)(h:i<s.size):(s[i]'h).toNat=bz s.data.toList i:=by
 unfold bz;rw[List.getD_eq_getElem?_getD,ace (by simpa using h)];rfl
theorem dN(s:ByteArray):s.data.toList.length=s.size:=by simp
theorem KG(s:ByteArray)(a:Nat)(w:World)(W:a<s.size)(X:s.size<=4096):
 Calls Tryz.prog 229 #[.string s,.int .i64 (a:Int)] w fun e w'=>e= .returned (.int .i64 (Cz s.data.toList a:Int))/\Below w.heap.size w w':=by
 have V:(a:Int)+1<=s.size:=by omega
 have J:fH (IL.map sP) (s.extract a (a+1))=wW IL (sub s.data.toList a (a+1)):=by rw[M0,M3]
 have L:fH (PD.map sP) (s.extract a (a+2))=wW PD (sub s.data.toList a (a+2)):=by rw[M0,M3]
 obtain⟨I, B⟩:=ag (wW IL (sub s.data.toList a (a+1)));obtain⟨R, A⟩:=ag (wW PD (sub s.data.toList a (a+2)));rw[B]at J;rw[A]at L
 have E:(Cz s.data.toList a:Int)=if decide (a+2<=s.size)&&R then 2 else if I then 1 else 0:=by
  unfold Cz;rw[B,A,dN];split<;>(try split)<;>rfl
 rw[E];have O:=kH J;have U:=kH L;clear J L B A E;by_cases T:a+2<=s.size
 ·have M:(a:Int)+2<=s.size:=by omega
  have G:decide (a+2<=s.size)=true:=decide_eq_true T;rw[G];clear G;go_in
  go_wp2_with fail
  refine(AY (some ⟨w.heap.size,0,none⟩) 4 4 (PD.map sP) _ _ (Ep w 9 PD) rfl (by omega)).mono ?_;rintro e H ⟨rfl,B⟩;rw[U.out];have D:=ai w (.cells (PD.map fun b=>Value.string (sP b)).toArray 9);have F:Below w.heap.size w H:=D.trans (B.mono (by simp));clear D B;cases R
  ·go_wp2_with fail
   refine(AY (some ⟨H.heap.size,0,none⟩) 18 18 (IL.map sP) _ _ (Ep H 9 IL) rfl (by omega)).mono ?_;rintro e N ⟨rfl,A⟩;rw[O.out];have D:=ai H (.cells (IL.map fun b=>Value.string (sP b)).toArray 9);have C:Below w.heap.size w N:=F.trans ((D.trans (A.mono (by simp))).mono F.size);clear D A;cases I
   ·go_wp2_with fail
    go_ret
    exact⟨rfl,C⟩
   go_wp2_with fail
   go_ret
   exact⟨rfl,C⟩
  go_wp2_with fail
  go_ret
  exact⟨rfl,F⟩
 have M:¬(a:Int)+2<=s.size:=by omega
 have G:decide (a+2<=s.size)=false:=decide_eq_false T;rw[G];clear G;go_in
 go_wp2_with fail
 refine(AY (some ⟨w.heap.size,0,none⟩) 18 18 (IL.map sP) _ _ (Ep w 9 IL) rfl (by omega)).mono ?_;rintro e N ⟨rfl,A⟩;rw[O.out];have D:=ai w (.cells (IL.map fun b=>Value.string (sP b)).toArray 9);have C:Below w.heap.size w N:=D.trans (A.mono (by simp));clear D A;cases I
 ·go_wp2_with fail
  go_ret
  exact⟨rfl,C⟩
 go_wp2_with fail
 go_ret
 exact⟨rfl,C⟩
theorem L9(s:ByteArray)(a:Nat)(w:World)(H:a<s.size)(L:s.size<=4096):
 Calls Tryz.prog 230 #[.string s,.int .i64 (a:Int)] w fun e w'=>e= .returned (.bool (vS s.data.toList a))/\Below w.heap.size w w':=by
 have M:=oQ s a H;have I:(a:Int)<s.size:=by omega
 obtain⟨F, C⟩:=ag (j6 (bz s.data.toList a));obtain⟨G, D⟩:=ag (eH (bz s.data.toList a));have A:vS s.data.toList a=(F || G || decide (0<Cz s.data.toList a)):=by unfold vS;rw[C,D]
 rw[A];have B:=kH C;have E:=kH D;clear C D A;cases F
 ·cases G
  ·go_in
   go_wp2_with fail
   refine(kJ _ _).mono ?_;rintro e w' ⟨rfl,rfl⟩;rw[B.out];go_wp2_with fail
   refine(mh _ _).mono ?_;rintro e w' ⟨rfl,rfl⟩;rw[E.out];go_wp2_with fail
   refine(KG s a _ H L).mono ?_;rintro e w' ⟨rfl,J⟩;go_wp2_with fail
   go_ret
   exact⟨bE (by simp),J⟩
  go_in
  go_wp2_with fail
  refine(kJ _ _).mono ?_;rintro e w' ⟨rfl,rfl⟩;rw[B.out];go_wp2_with fail
  refine(mh _ _).mono ?_;rintro e w' ⟨rfl,rfl⟩;rw[E.out];go_wp2_with fail
  go_ret
  exact⟨rfl,Below.refl _ _⟩
 go_in
 go_wp2_with fail
 refine(kJ _ _).mono ?_;rintro e w' ⟨rfl,rfl⟩;rw[B.out];go_wp2_with fail
 go_ret
 exact⟨rfl,Below.refl _ _⟩
theorem Xz(s:ByteArray)(a:Nat)(w:World)(ha:a<s.size)(hs:s.size<=4096):
 Calls Tryz.prog 180 #[.string s,.int .i64 (a:Int)] w fun e w'=>e= .returned (.tuple #[.int .i64 ((nI s.data.toList a).1:Int),.int .i64 ((nI s.data.toList a).2:Int)])/\Below w.heap.size w w':=by
 have U:=oQ s a ha;have ax:(a:Int)<s.size:=by omega
 obtain⟨c, a6⟩:=ag (bz s.data.toList a);rw[a6]at U;have uB:=kH a6;clear a6;obtain⟨bl, af⟩:=ag (j6 c);have y:=kH af;clear af;cases bl
 ·obtain⟨bd, ad⟩:=ag (eH c)
  have Aj:=kH ad;clear ad;cases bd
  ·obtain⟨sm, X⟩:=ag (Cz s.data.toList a)
   have av:sm<=2:=by rw[<- X];exact symM_le a
   have an:∀w:World,Calls Tryz.prog 229 #[.string s,.int .i64 (a:Int)] w fun e w'=>e= .returned (.int .i64 (sm:Int))/\Below w.heap.size w w':=fun w=>by rw[<- X];exact KG s a w ha hs
   have nO:=kH X;have Ux:=kH an;clear X an;by_cases h0:0<sm
   ·have aw:(0:Int)<(sm:Int):=by omega
    have z:nI s.data.toList a=(3,a+sm):=by
     unfold nI;rw[uB.out,y.out,Aj.out,nO.out,if_neg (by simp),if_neg (by simp),if_pos h0]
    have bG:=kH z;clear z h0;go_in
    go_wp2_with fail
    refine(kJ c _).mono ?_;rintro e w' ⟨rfl,rfl⟩;rw[y.out];go_wp2_with fail
    refine(mh c _).mono ?_;rintro e w' ⟨rfl,rfl⟩;rw[Aj.out];go_wp2_with fail
    refine(Ux.out _).mono ?_;rintro e w1 ⟨rfl,C⟩;go_wp2_with fail
    refine(Ux.out _).mono ?_;rintro e w2 ⟨rfl,H⟩;go_wp2_with fail
    go_ret2
    refine⟨by rw[bG.out];rfl,C.trans (H.mono C.size)⟩
   have au:sm=0:=by omega
   subst au
   have G:nI s.data.toList a=(4,jU (fun i=> !zm (bz s.data.toList i)&& !decide (bz s.data.toList i=35)&& !vS s.data.toList i) s.data.toList s.data.toList.length a):=by
    unfold nI;rw[uB.out,y.out,Aj.out,nO.out,if_neg (by simp),if_neg (by simp),if_neg (by simp)]
   have vG:=kH G;clear G h0;go_in
   go_wp2_with fail
   refine(kJ c _).mono ?_;rintro e w' ⟨rfl,rfl⟩;rw[y.out];go_wp2_with fail
   refine(mh c _).mono ?_;rintro e w' ⟨rfl,rfl⟩;rw[Aj.out];go_wp2_with fail
   refine(Ux.out _).mono ?_;rintro e w1 ⟨rfl,C⟩;clear U;go_wp2_with fail
   go_loopg [6] (s.size - a) (fun gk s6 wr=> ∃j:Nat,j+gk=s.size/\a<=j/\s6= .int .i64 j/\(∀i,a<=i->i<j->(fun i=> !zm (bz s.data.toList i)&& !decide (bz s.data.toList i=35)&& !vS s.data.toList i) i=true)/\Below w.heap.size w wr)
   case atStart=>exact⟨a,by omega,ab9 _,rfl,fun i N k=>by omega,C⟩
   obtain⟨j,Y,O,rfl,F,b⟩:=hrel;have R:j<=s.size:=by omega
   have M:=kH Y;have V:=kH F;clear Y F C
   have B:(j<s.size->(!zm (bz s.data.toList j)&& !decide (bz s.data.toList j=35)&& !vS s.data.toList j)=false)->nI s.data.toList a=(4,j):=fun h=>by
    rw[vG.out,MC _ a j O (by rw[dN];exact R) V.out (fun Z=>by rw[dN]at Z;exact h Z) (by omega)]
   by_cases L:j<s.size
   ·have U:=oQ s j L
    have al:(j:Int)<s.size:=by omega
    obtain⟨d, E⟩:=ag (bz s.data.toList j);rw[E]at U;obtain⟨b1, C⟩:=ag (zm d);obtain⟨b3, a1⟩:=ag (vS s.data.toList j);have l:=kH E;have D:=kH C;have u:=kH a1;rw[E,C,a1]at B;clear E C a1;cases b1
    ·by_cases Ac:d=35
     ·have A:=B (fun _=>by simp[Ac])
      have a8:((d:Int) !=35)=false:=by simp;omega
      have J:=kH A;clear A B Ac;go_wp2_with fail
      refine(Ct d _).mono ?_;rintro e w' ⟨rfl,rfl⟩;rw[D.out];go_wp2_with fail
      go_ret2
      exact⟨by rw[J.out];rfl,b⟩
     have a8:((d:Int) !=35)=true:=by simp;omega
     have a7:decide (d=35)=false:=decide_eq_false Ac;rw[a7]at B;have ao:=kH a7;clear a7 Ac;cases b3
     ·clear B
      go_wp2_with fail
      refine(Ct d _).mono ?_;rintro e w' ⟨rfl,rfl⟩;rw[D.out];go_wp2_with fail
      refine(L9 s j _ L hs).mono ?_;rintro e w2 ⟨rfl,H⟩;rw[u.out];go_wp2_with fail
      go_roundg (gk - 1)
      case measure=>have:=M.out;omega
      refine⟨j+1,by have:=M.out;omega,by omega,by go_num,fun i N k=>?_,b.trans (H.mono b.size)⟩;by_cases I:i=j
      ·subst I
       rw[u.out,l.out,ao.out,D.out];rfl
      exact V.out i N (by omega)
     have A:=B (fun _=>by simp);have J:=kH A;clear A B;go_wp2_with fail
     refine(Ct d _).mono ?_;rintro e w' ⟨rfl,rfl⟩;rw[D.out];go_wp2_with fail
     refine(L9 s j _ L hs).mono ?_;rintro e w2 ⟨rfl,H⟩;rw[u.out];go_wp2_with fail
     go_ret2
     exact⟨by rw[J.out];rfl,b.trans (H.mono b.size)⟩
    have A:=B (fun _=>by simp);have J:=kH A;clear A B;go_wp2_with fail
    refine(Ct d _).mono ?_;rintro e w' ⟨rfl,rfl⟩;rw[D.out];go_wp2_with fail
    go_ret2
    exact⟨by rw[J.out];rfl,b⟩
   have T:j=s.size:=by omega
   have A:=B (fun h=>by omega);have J:=kH A;clear A B;subst T;go_wp2_with fail
   go_ret2
   exact⟨by rw[J.out];rfl,b⟩
  have G:nI s.data.toList a=(2,jU (fun i=>eH (bz s.data.toList i)) s.data.toList s.data.toList.length a):=by
   unfold nI;rw[uB.out,y.out,Aj.out,if_neg (by simp),if_pos rfl]
  have vG:=kH G;clear G;go_in
  go_wp2_with fail
  refine(kJ c _).mono ?_;rintro e w' ⟨rfl,rfl⟩;rw[y.out];go_wp2_with fail
  refine(mh c _).mono ?_;rintro e w' ⟨rfl,rfl⟩;rw[Aj.out];clear U;go_wp2_with fail
  go_loopg [6] (s.size - a) (fun gk s6 wr=> ∃j:Nat,j+gk=s.size/\a<=j/\s6= .int .i64 j/\(∀i,a<=i->i<j->(fun i=>eH (bz s.data.toList i)) i=true)/\w=wr)
  case atStart=>exact⟨a,by omega,ab9 _,rfl,fun i N k=>by omega,rfl⟩
  obtain⟨j,Y,O,rfl,F,rfl⟩:=hrel;have R:j<=s.size:=by omega
  have M:=kH Y;have V:=kH F;clear Y F
  have B:(j<s.size->eH (bz s.data.toList j)=false)->nI s.data.toList a=(2,j):=fun h=>by
   rw[vG.out,MC _ a j O (by rw[dN];exact R) V.out (fun Z=>by rw[dN]at Z;exact h Z) (by omega)]
  by_cases L:j<s.size
  ·have U:=oQ s j L
   have al:(j:Int)<s.size:=by omega
   obtain⟨d, E⟩:=ag (bz s.data.toList j);rw[E]at U;obtain⟨b1, C⟩:=ag (eH d);have l:=kH E;have D:=kH C;rw[E,C]at B;clear E C;cases b1
   ·have A:=B (fun _=>rfl)
    have J:=kH A;clear A B;go_wp2_with fail
    refine(mh d _).mono ?_;rintro e w' ⟨rfl,rfl⟩;rw[D.out];go_wp2_with fail
    go_ret2
    exact⟨by rw[J.out];rfl,Below.refl _ _⟩
   clear B;go_wp2_with fail
   refine(mh d _).mono ?_;rintro e w' ⟨rfl,rfl⟩;rw[D.out];go_wp2_with fail
   go_roundg (gk - 1)
   case measure=>have:=M.out;omega
   refine⟨j+1,by have:=M.out;omega,by omega,by go_num,fun i N k=>?_,rfl⟩;by_cases I:i=j
   ·subst I
    rw[l.out];exact D.out
   exact V.out i N (by omega)
  have T:j=s.size:=by omega
  have A:=B (fun h=>by omega);have J:=kH A;clear A B;subst T;go_wp2_with fail
  go_ret2
  exact⟨by rw[J.out];rfl,Below.refl _ _⟩
 have G:nI s.data.toList a=(if I6 (sub s.data.toList a (jU (fun i=>xH (bz s.data.toList i)) s.data.toList s.data.toList.length a)) then 1 else 0,jU (fun i=>xH (bz s.data.toList i)) s.data.toList s.data.toList.length a):=by
  unfold nI;rw[uB.out,y.out,if_pos rfl]
 have vG:=kH G;clear G;go_in
 go_wp2_with fail
 refine(kJ c _).mono ?_;rintro e w' ⟨rfl,rfl⟩;rw[y.out];clear U;go_wp2_with fail
 go_loopg [6] (s.size - a) (fun gk s6 wr=> ∃j:Nat,j+gk=s.size/\a<=j/\s6= .int .i64 j/\(∀i,a<=i->i<j->(fun i=>xH (bz s.data.toList i)) i=true)/\w=wr)
 case atStart=>exact⟨a,by omega,ab9 _,rfl,fun i N k=>by omega,rfl⟩
 obtain⟨j,Y,O,rfl,F,rfl⟩:=hrel;have R:j<=s.size:=by omega
 have M:=kH Y;have V:=kH F;clear Y F;obtain⟨kb, ab⟩:=ag (I6 (sub s.data.toList a j))
 have B:(j<s.size->xH (bz s.data.toList j)=false)->nI s.data.toList a=(if kb then 1 else 0,j):=fun h=>by
  rw[vG.out,MC _ a j O (by rw[dN];exact R) V.out (fun Z=>by rw[dN]at Z;exact h Z) (by omega),ab]
 have sD:∀w:World,Calls Tryz.prog 228 #[.string (s.extract a j)] w fun e w'=>e= .returned (.bool kb)/\Below w.heap.size w w':=fun w=>by
  have:=Jo (s.extract a j) w;rw[M3,ab]at this;exact this
 have Eg:=kH sD;clear sD ab;have aq:(a:Int)<=(j:Int):=by omega
 have ar:(j:Int)<=s.size:=by omega
 by_cases L:j<s.size
 ·have U:=oQ s j L
  have al:(j:Int)<s.size:=by omega
  obtain⟨d, E⟩:=ag (bz s.data.toList j);rw[E]at U;obtain⟨b1, C⟩:=ag (j6 d);obtain⟨b2, H⟩:=ag (eH d);have aa:xH d=(b1 || b2 || decide (d=95)):=by unfold xH;rw[C,H]
  have l:=kH E;have D:=kH C;have x:=kH H;rw[E,aa]at B;have q:=kH aa;clear E C H aa;cases b1
  ·cases b2
   ·by_cases W:d=95
    ·have a8:((d:Int)==95)=true:=by simp;omega
     have HD:Hid (d=95):=kH W;clear B W;go_wp2_with fail
     refine(kJ d _).mono ?_;rintro e w' ⟨rfl,rfl⟩;rw[D.out];go_wp2_with fail
     refine(mh d _).mono ?_;rintro e w' ⟨rfl,rfl⟩;rw[x.out];go_wp2_with fail
     go_roundg (gk - 1)
     case measure=>have:=M.out;omega
     refine⟨j+1,by have:=M.out;omega,by omega,by go_num,fun i N k=>?_,rfl⟩;by_cases I:i=j
     ·subst I
      rw[l.out,q.out];simp[HD.out]
     exact V.out i N (by omega)
    have a8:((d:Int)==95)=false:=by simp;omega
    have A:=B (fun _=>by simp[W]);have J:=kH A;clear A B W;go_wp2_with fail
    refine(kJ d _).mono ?_;rintro e w' ⟨rfl,rfl⟩;rw[D.out];go_wp2_with fail
    refine(mh d _).mono ?_;rintro e w' ⟨rfl,rfl⟩;rw[x.out];go_wp2_with fail
    refine(Eg.out _).mono ?_;rintro e w1 ⟨rfl,C⟩;cases kb
    ·go_wp2_with fail
     go_ret2
     exact⟨by rw[J.out];rfl,C⟩
    go_wp2_with fail
    go_ret2
    exact⟨by rw[J.out];rfl,C⟩
   clear B;go_wp2_with fail
   refine(kJ d _).mono ?_;rintro e w' ⟨rfl,rfl⟩;rw[D.out];go_wp2_with fail
   refine(mh d _).mono ?_;rintro e w' ⟨rfl,rfl⟩;rw[x.out];go_wp2_with fail
   go_roundg (gk - 1)
   case measure=>have:=M.out;omega
   refine⟨j+1,by have:=M.out;omega,by omega,by go_num,fun i N k=>?_,rfl⟩;by_cases I:i=j
   ·subst I
    rw[l.out,q.out];simp
   exact V.out i N (by omega)
  clear B;go_wp2_with fail
  refine(kJ d _).mono ?_;rintro e w' ⟨rfl,rfl⟩;rw[D.out];go_wp2_with fail
  go_roundg (gk - 1)
  case measure=>have:=M.out;omega
  refine⟨j+1,by have:=M.out;omega,by omega,by go_num,fun i N k=>?_,rfl⟩;by_cases I:i=j
  ·subst I
   rw[l.out,q.out];simp
  exact V.out i N (by omega)
 have T:j=s.size:=by omega
 have A:=B (fun h=>by omega);have J:=kH A;clear A B;subst T;go_wp2_with fail
 refine(Eg.out _).mono ?_;rintro e w1 ⟨rfl,C⟩;cases kb
 ·go_wp2_with fail
  go_ret2
  exact⟨by rw[J.out];rfl,C⟩
 go_wp2_with fail
 go_ret2
 exact⟨by rw[J.out];rfl,C⟩
end Go.Proofs.YtoepemlnlpamlaaGreat
namespace Go.Proofs.YtoepemlnlpamlaaGreat
inductive ae where
 | node (k:Int) (t:ByteArray) (a e:Int) (kids:List ae)
def ae.kind:ae->Int| .node k _ _ _ _=>k
def ae.text:ae->ByteArray| .node _ t _ _ _=>t
def ae.at_:ae->Int| .node _ _ a _ _=>a
def ae.end_:ae->Int| .node _ _ _ e _=>e
def ae.kids:ae->List ae| .node _ _ _ _ l=>l
structure Dg where
 code:Int
 at_:Int
 end_:Int
 text:ByteArray
open Go.RowKit
theorem aG.typed{w:World}{base:Nat}{e:TypeId}{size:Nat}{v:Value}{n:Nat}{xs:List Value}(h:aG w base e size v n xs){g:Nat}(B:v.ownBlock=some g):∃cs,w.heap[g]? =some (.cells cs e (0,0)):=by
 rcases h.2 with⟨rfl,_⟩| ⟨D,G,F,E,rfl,_,A,_⟩
 ·cases B
 have C:D=g:=by simpa [Value.ownBlock] using B
 subst C;exact⟨_,A⟩
def iN(d:Dg):List Value:=[.int .i64 d.code,.int .i64 d.at_,.int .i64 d.end_,.string d.text,.slice none 0 0]
theorem y5(w:World)(g:Nat)(a b c d:Value)(B:w.cell? ⟨g,0,none⟩=some a)(C:w.cell? ⟨g,1,none⟩=some b)(D:w.cell? ⟨g,2,none⟩=some c)(E:w.cell? ⟨g,3,none⟩=some d):
 ∀j v,[a,b,c,d][j]? =some v->w.cell? ((⟨g,0,none⟩:Addr).add j)=some v:=by
 intro j v A
 match j,A with
 | 0,A=>simp at A;subst A;exact B
 | 1,A=>simp at A;subst A;exact C
 | 2,A=>simp at A;subst A;exact D
 | 3,A=>simp at A;subst A;exact E
 | j+4,A=>simp at A
theorem Y5(s:ByteArray)(i:Nat)(h:i<s.size):s.data.toList.drop i=(s[i]'h)::s.data.toList.drop (i+1):=by
 rw[List.drop_eq_getElem_cons (by simpa using h)];rfl
theorem WY(s:ByteArray)(w:World)(hs:s.size<=4096):
 Calls Tryz.prog 132 #[.string s] w fun e w'=>e= .returned (.tuple #[.int .i64 (((dE s.data.toList).getD 0:Nat):Int),.bool (dE s.data.toList).isSome])/\w=w':=by
 by_cases z:s.size<1
 ·have J:(s.size:Int)<1:=by omega
  have A:dE s.data.toList=none:=by unfold dE;rw[dN,if_pos (.inl z)]
  rw[A];clear A;go_in
  go_wp2_with fail
  go_ret2
  exact⟨rfl,rfl⟩
 have J:¬(s.size:Int)<1:=by omega
 by_cases y:9<s.size
 ·have L:(9:Int)<s.size:=by omega
  have A:dE s.data.toList=none:=by unfold dE;rw[dN,if_pos (.inr y)]
  rw[A];clear A;go_in
  go_wp2_with fail
  go_ret2
  exact⟨rfl,rfl⟩
 have L:¬(9:Int)<s.size:=by omega
 have Y:dE s.data.toList=rZ s.data.toList 0:=by unfold dE;rw[dN,if_neg (by omega)]
 rw[Y];clear Y;go_in
 go_wp2_with fail
 go_loopg [4,5] (s.size) (fun gk d b wr=> ∃i n:Nat,i+gk=s.size/\b= .int .i64 i/\d= .int .i64 n/\rZ s.data.toList 0=rZ (s.data.toList.drop i) n/\n<10 ^ i/\w=wr)
 case atStart=>exact⟨0,0,by omega,rfl,rfl,rfl,by decide,rfl⟩
 obtain⟨i,n,V,rfl,rfl,G,W,rfl⟩:=hrel;have l:i<=s.size:=by omega
 have O:=kH V;have N:=kH G;have R:=kH W;clear V G W;by_cases B:i<s.size
 ·have j:n<=100000000:=by
   have h2:10 ^ i<=10 ^ 8:=Nat.pow_le_pow_right (by omega) (by omega);have:=R.out;omega
  have k:(i:Int)<s.size:=by omega
  have C:rZ (s.data.toList.drop i) n=if eH (s[i]'B).toNat then rZ (s.data.toList.drop (i+1)) (10*n+((s[i]'B).toNat - 48)) else none:=by
   rw[Y5 s i B,rZ]
  obtain⟨c, x⟩:=ag ((s[i]'B).toNat);rw[x]at C;obtain⟨Z, D⟩:=ag (eH c);rw[D]at C;have H:=kH D;have F:=kH C;clear C D;cases Z
  ·have A:rZ s.data.toList 0=none:=by rw[N.out,F.out];rfl
   have I:=kH A;clear A;go_wp2_with fail
   refine(mh c _).mono ?_;rintro e w' ⟨rfl,rfl⟩;rw[H.out];go_wp2_with fail
   go_ret2
   exact⟨by rw[I.out];rfl,rfl⟩
  have E:=H.out;unfold eH at E;simp at E;obtain⟨u,q⟩:=E;have T:(48:Int)<=(c:Int):=by omega
  have U:(c:Int)<=57:=by omega
  have X:(n:Int)<=100000000:=by omega
  go_wp2_with fail
  refine(mh c _).mono ?_;rintro e w' ⟨rfl,rfl⟩;rw[H.out];go_wp2_with fail
  go_roundg (gk - 1)
  case measure=>have:=O.out;omega
  refine⟨i+1,10*n+(c - 48),by have:=O.out;omega,by go_num,congrArg (Value.int .i64) (by omega),?_,?_,rfl⟩
  ·rw[N.out,F.out];rfl
  have:=R.out;rw[Nat.pow_succ];omega
 have M:i=s.size:=by omega
 have A:rZ s.data.toList 0=some n:=by
  rw[N.out,List.drop_of_length_le (by rw[dN];omega)];rfl
 have I:=kH A;clear A;subst M;go_wp2_with fail
 go_ret2
 exact⟨by rw[I.out];rfl,rfl⟩
end Go.Proofs.YtoepemlnlpamlaaGreat
namespace Go.Proofs.YtoepemlnlpamlaaGreat
section
variable {P:Program}{ops:Array Oper}{Q:Exit->Act->World->Prop}{md:Region.Mode}{S:World->Prop}{ex:List Nat}
def yS(P:Program)(md:Region.Mode)(ops:Array Oper)(Q:Exit->Act->World->Prop)(S:World->Prop)(ex:List Nat):Nat->Array Bool->Act->World->Prop
 | 0,listed,a,w=>Region.ready md ops listed=[]/\Q .normal a w
 | fuel+1,listed,a,w=>
  (Region.ready md ops listed=[]->Q .normal a w) /\
  ∀i∈Region.ready md ops listed,wpOp P ops Q i (fun a' w'=>(i ∉ ex->S w')/\yS P md ops Q S ex fuel (listed.setIfInBounds i true) a' w') a w
theorem vZ:∀(fuel:Nat) (A:Array Bool) (a:Act) (w:World),yS P md ops Q S ex fuel A a w->wpAny P md ops Q fuel A a w
 | 0,_,_,_,h=>h
 | fuel+1,_,_,_,h=>⟨h.1,fun i D=>wpOp_mono (fun B w' C=>vZ fuel _ B w' C.2) (h.2 i D)⟩
theorem wu{i:Nat}{M:Oper}{v:Value}(d:ops[i]? =some M)(I:∀(j:Nat) (o:Oper) cs b,ops[j]? =some o->o.op ≠ .select cs b)
 (l:∀j∈ex,Region.waitsFor md ops j i=true)
 (hQ:∀c a w,Q (.panic c) (a.put M.dst v) w->Q (.panic c) a w):
 ∀(fuel:Nat) (A:Array Bool) (a:Act) (w:World),
  (∀j N,ops[j]? =some N->j≠i->A.getD j true=false->(∀e∈N.after,Region.binds md e=true->e.on≠i)->M.apart ops N=true) ->
  i∈Region.ready md ops A->YieldsIf P ops S M v a->S w ->
  yS P md ops Q S ex fuel (A.setIfInBounds i true) (a.put M.dst v) w->yS P md ops Q S ex (fuel+1) A a w:=by
 intro fuel
 induction fuel with
 | zero=>
  intro A a w _ L z O H;refine⟨fun h=>(by rw[h]at L;cases L),fun j Z=>?_⟩;by_cases B:j=i
  ·subst B;exact z.wpOp d O ⟨fun _=>O,H⟩
  have:=ready_mono Z B;rw[H.1]at this
  cases this
 | succ fuel ih=>
  intro A a w C L z O H;refine⟨fun h=>(by rw[h]at L;cases L),fun j Z=>?_⟩;by_cases B:j=i
  ·subst B;exact z.wpOp d O ⟨fun _=>O,H⟩
  have J:=H.2 j (ready_mono Z B);obtain⟨F,N,E,R⟩:=mem_ready.1 Z
  have G:∀e∈N.after,Region.binds md e=true->e.on≠i:=fun e u x q=>by
   have J:=R e u x;have h0:=(mem_ready.1 L).1;rw[q]at J;rcases Nat.lt_or_ge i A.size with y|y
   ·simp[y]at h0 J;rw[h0]at J;cases J
   simp[Array.getElem?_eq_none y]at J
  have U:j ∉ ex:=fun hm=>by
   obtain⟨a8,T,e,u,x,a7⟩:=Region.waitsFor_spec (l j hm);rw[E]at T;cases T
   exact G e u x a7
  have h2:=wpOp_putIf E (C j N E B F G) (fun cs b=>I i M cs b d) (fun cs b=>I j N cs b E) hQ z J
  have D:∀k X,ops[k]? =some X->k≠i->(A.setIfInBounds j true).getD k true=false ->
   (∀e∈X.after,Region.binds md e=true->e.on≠i)->M.apart ops X=true:=fun k X hk a1 W a6=>by
   refine C k X hk a1 ?_ a6;by_cases V:j=k
   ·subst V;exact F
   rw[getD_set_ne true V]at W;exact W
  refine wpOp_mono (fun a' w' Y=>⟨Y.2.1,ih (A.setIfInBounds j true) a' w' D (ready_mono L (Ne.symm B)) Y.1 (Y.2.1 U) ?_⟩) h2;rw[Array.setIfInBounds_comm _ _ B];exact Y.2.2
def vX(P:Program)(ops:Array Oper)(Q:Exit->Act->World->Prop)(S:World->Prop)(ex:List Nat):Nat->List Bool->List Oper->Act->World->Prop
 | _,_,[],a,w=>Q .normal a w
 | _,[],_::_,_,_=>False
 | k,true::ss,o::rest,a,w=> ∃v,YieldsIf P ops S o v a/\S w/\vX P ops Q S ex (k+1) ss rest (a.put o.dst v) w
 | k,false::ss,o::rest,a,w=>o.guard=none/\o.wp P a w (fun a' w'=>(ex.contains k=false->S w')/\vX P ops Q S ex (k+1) ss rest a' w') Q
def nH(md:Region.Mode)(ops:Array Oper)(ex:List Nat):Nat->List Bool->Array Bool->Bool
 | _,[],listed=>(Region.ready md ops listed).isEmpty
 | k,true::ss,listed=>Region.free md ops listed k&&(Region.ready md ops listed).contains k&&ex.all (fun j=>Region.waitsFor md ops j k)&&nH md ops ex (k+1) ss (listed.setIfInBounds k true)
 | k,false::ss,listed=>(Region.ready md ops listed==[k])&&nH md ops ex (k+1) ss (listed.setIfInBounds k true)
theorem Pe(y:Region.noSelect ops=true)(V:∀c a b w,Q (.panic c) a w->Q (.panic c) b w):∀(l:List Oper) (B:List Bool) (k:Nat) (A:Array Bool) (a:Act) (w:World),(∀j,l[j]? =ops[k+j]?)->B.length=l.length ->
 nH md ops ex k B A=true->vX P ops Q S ex k B l a w->yS P md ops Q S ex l.length A a w:=by
 intro l
 induction l with
 | nil=>
  intro B k A a w L C E h;have:B=[]:=List.eq_nil_of_length_eq_zero C;subst this;exact⟨by simpa [nH] using E,by simpa [vX] using h⟩
 | cons o rest ih=>
  intro B k A a w L C E h;have D:ops[k]? =some o:=by have:=L 0;simpa using this.symm
  have G:∀j,rest[j]? =ops[k+1+j]? :=fun j=>by
   have:=L (j+1);rw[aci]at this;rw[this,Nat.add_assoc,Nat.add_comm 1 j]
  cases B with
  | nil=>simp at C
  | cons s B=>
   have M:B.length=rest.length:=by simpa using C
   cases s with
   | true=>
    simp only[nH,acb]at E;obtain⟨⟨⟨F,H⟩,T⟩,U⟩:=E;obtain⟨v,u,W,I⟩:=h;refine wu D (Region.noSelect_spec y) (fun j Y=>?_) (fun c a w z=>V c _ _ w z) rest.length A a w (Region.free_spec D F) (by simpa using H) u W (ih B (k+1) _ _ w G M U I);exact List.all_eq_true.1 T j Y
   | false=>
    simp only[nH,acb,beq_iff_eq]at E;obtain⟨F,H⟩:=E;obtain⟨X,I⟩:=h;refine⟨fun R=>(by rw[R]at F;cases F),fun i J=>?_⟩;rw[F]at J;simp at J;subst J;have x:Region.wanted o (yielded ops a.tmps)=true:=by simp[Region.wanted,X]
    unfold wpOp;simp only[D,x,if_true];refine .inl (Oper.wp_mono (fun O w' N=>⟨fun Z=>N.1 (by simpa using Z),ih B (i+1) _ O w' G M H N.2⟩) I)
theorem dF{G:Nat}{a:Act}{w:World}{l:List Oper}(S:World->Prop)(ex:List Nat)(A:List Bool)(D:P.follows .mixedOrders=true)(F:Region.noSelect l.toArray=true)
 (C:A.length=l.length) (B:nH .any l.toArray ex 0 A (Array.replicate l.length false)=true) (h:vX P l.toArray (NoPanic Q) S ex 0 A l a w.drew):(Code.region G l.toArray true).wp P Q a w:=by
 refine wp_region_noPanic (wp_region_any D (vZ (S:=S) (ex:=ex) _ _ _ _ ?_));have:=Pe (P:=P) (S:=S) (md:=.any) F (Q:=NoPanic Q) (fun c a b w E=>(E:False).elim) l A 0 (Array.replicate l.length false) a w.drew (fun j=>by simp) C B h;simpa using this
theorem gp{k:Nat}{A:List Bool}{a:Act}{w:World}(h:Q .normal a w):vX P ops (NoPanic Q) S ex k A [] a w:=by
 cases A<;>exact h
theorem eD{k:Nat}{A:List Bool}{o:Oper}{rest:List Oper}{a:Act}{w:World}{v:Value}(C:o.guard=none)(B:S w)(D:∀w',S w'->(execOp a.eval o).run P w'= .ok (.value v) w')
 (h:vX P ops Q S ex (k+1) A rest (a.put o.dst v) w):vX P ops Q S ex k (true::A) (o::rest) a w:=
 ⟨v,.inl ⟨by simp[Region.wanted,C],D⟩,B,h⟩
theorem eu{k:Nat}{A:List Bool}{o:Oper}{rest:List Oper}{a:Act}{w w':World}{v:Value}(C:o.guard=none)(D:(execOp a.eval o).run P w= .ok (.value v) w')(B:ex.contains k=false->S w')
 (h:vX P ops Q S ex (k+1) A rest (a.put o.dst v) w'):vX P ops Q S ex k (false::A) (o::rest) a w:=
 ⟨C,by unfold Oper.wp;rw[D];exact⟨B,h⟩⟩
theorem gH{k:Nat}{A:List Bool}{o:Oper}{rest:List Oper}{a:Act}{w w':World}(C:o.guard=none)(D:(execOp a.eval o).run P w= .ok .skip w')(B:ex.contains k=false->S w')
 (h:vX P ops Q S ex (k+1) A rest (a.put o.dst undef) w'):vX P ops Q S ex k (false::A) (o::rest) a w:=
 ⟨C,by unfold Oper.wp;rw[D];exact⟨B,h⟩⟩
theorem jR{k:Nat}{A:List Bool}{o:Oper}{rest:List Oper}{a:Act}{w:World}(C:o.guard=none)
 (h:o.wp P a w (fun B w'=>(ex.contains k=false->S w')/\vX P ops Q S ex (k+1) A rest B w') Q):vX P ops Q S ex k (false::A) (o::rest) a w:=⟨C,h⟩
end
open Go.RowKit
theorem Uq:(Tryz.prog.info? 78).map (fun i=>(i.zero,i.size,i.bytes))=some (some (.agg #[.int .i64 0,.int .i64 0,.int .i64 0,.string ⟨#[]⟩,.slice none 0 0]),5,64):=by kernel_rfl
theorem X4(w:World)(g:Nat)(a b c d e:Value)(B:w.cell? ⟨g,0,none⟩=some a)(C:w.cell? ⟨g,1,none⟩=some b)(D:w.cell? ⟨g,2,none⟩=some c)(E:w.cell? ⟨g,3,none⟩=some d)(F:w.cell? ⟨g,4,none⟩=some e):
 ∀j v,[a,b,c,d,e][j]? =some v->w.cell? ((⟨g,0,none⟩:Addr).add j)=some v:=by
 intro j v A
 match j,A with
 | 0,A=>simp at A;subst A;exact B
 | 1,A=>simp at A;subst A;exact C
 | 2,A=>simp at A;subst A;exact D
 | 3,A=>simp at A;subst A;exact E
 | 4,A=>simp at A;subst A;exact F
 | j+5,A=>simp at A
theorem ah.five{w:World}{g:Nat}{A:TypeId}{a b c d e:Value}(h:ah w g A #[a,b,c,d,e]):
 (w.cell? ⟨g,0,none⟩=some a/\w.cell? ⟨g,1,none⟩=some b/\w.cell? ⟨g,2,none⟩=some c/\w.cell? ⟨g,3,none⟩=some d/\w.cell? ⟨g,4,none⟩=some e) /\
 (w.frozen? ⟨g,0,none⟩=false/\w.frozen? ⟨g,1,none⟩=false/\w.frozen? ⟨g,2,none⟩=false/\w.frozen? ⟨g,3,none⟩=false/\w.frozen? ⟨g,4,none⟩=false):=
 ⟨⟨h.cell 0,h.cell 1,h.cell 2,h.cell 3,h.cell 4⟩,h.frozen 0,h.frozen 1,h.frozen 2,h.frozen 3,h.frozen 4⟩
def fZ(w:World)(g:Nat)(a b c d e:Value):World:=((((w.setCell ⟨g,0,none⟩ a).setCell ⟨g,1,none⟩ b).setCell ⟨g,2,none⟩ c).setCell ⟨g,3,none⟩ d).setCell ⟨g,4,none⟩ e
theorem Nw:(Tryz.prog.info? 24).map (fun i=>(i.zero,i.size,i.bytes))=some (some (.agg #[.int .i64 0,.string ⟨#[]⟩,.int .i64 0,.int .i64 0,.slice none 0 0]),5,64):=by kernel_rfl
end Go.Proofs.YtoepemlnlpamlaaGreat
namespace Go.Proofs.YtoepemlnlpamlaaGreat
section
variable {P:Program}{ops:Array Oper}{Q:Exit->Act->World->Prop}{md:Region.Mode}{S:World->Prop}{ex:List Nat}
def qa(P:Program)(ops:Array Oper)(Q:Exit->Act->World->Prop)(S:World->Prop)(ex:List Nat):Nat->List Bool->List Oper->Act->World->Prop
 | _,_,[],a,w=>Q .normal a w
 | _,[],_::_,_,_=>False
 | k,true::ss,o::rest,a,w=> ∃v,YieldsIf P ops S o v a/\S w/\qa P ops Q S ex (k+1) ss rest (a.put o.dst v) w
 | k,false::ss,o::rest,a,w=>Region.wanted o (yielded ops a.tmps)=true/\o.wp P a w (fun a' w'=>(ex.contains k=false->S w')/\qa P ops Q S ex (k+1) ss rest a' w') Q
theorem Pg(y:Region.noSelect ops=true)(V:∀c a b w,Q (.panic c) a w->Q (.panic c) b w):∀(l:List Oper) (B:List Bool) (k:Nat) (A:Array Bool) (a:Act) (w:World),(∀j,l[j]? =ops[k+j]?)->B.length=l.length ->
 nH md ops ex k B A=true->qa P ops Q S ex k B l a w->yS P md ops Q S ex l.length A a w:=by
 intro l
 induction l with
 | nil=>
  intro B k A a w L C E h;have:B=[]:=List.eq_nil_of_length_eq_zero C;subst this;exact⟨by simpa [nH] using E,by simpa [qa] using h⟩
 | cons o rest ih=>
  intro B k A a w L C E h;have D:ops[k]? =some o:=by have:=L 0;simpa using this.symm
  have G:∀j,rest[j]? =ops[k+1+j]? :=fun j=>by
   have:=L (j+1);rw[aci]at this;rw[this,Nat.add_assoc,Nat.add_comm 1 j]
  cases B with
  | nil=>simp at C
  | cons s B=>
   have M:B.length=rest.length:=by simpa using C
   cases s with
   | true=>
    simp only[nH,acb]at E;obtain⟨⟨⟨F,H⟩,T⟩,U⟩:=E;obtain⟨v,x,W,I⟩:=h;refine wu D (Region.noSelect_spec y) (fun j Y=>?_) (fun c a w z=>V c _ _ w z) rest.length A a w (Region.free_spec D F) (by simpa using H) x W (ih B (k+1) _ _ w G M U I);exact List.all_eq_true.1 T j Y
   | false=>
    simp only[nH,acb,beq_iff_eq]at E;obtain⟨F,H⟩:=E;obtain⟨X,I⟩:=h;refine⟨fun R=>(by rw[R]at F;cases F),fun i J=>?_⟩;rw[F]at J;simp at J;subst J;unfold wpOp;simp only[D,X,if_true];refine .inl (Oper.wp_mono (fun O w' N=>⟨fun Z=>N.1 (by simpa using Z),ih B (i+1) _ O w' G M H N.2⟩) I)
theorem bF{G:Nat}{a:Act}{w:World}{l:List Oper}(S:World->Prop)(ex:List Nat)(A:List Bool)(D:P.follows .mixedOrders=true)(F:Region.noSelect l.toArray=true)
 (C:A.length=l.length) (B:nH .any l.toArray ex 0 A (Array.replicate l.length false)=true) (h:qa P l.toArray (NoPanic Q) S ex 0 A l a w.drew):(Code.region G l.toArray true).wp P Q a w:=by
 refine wp_region_noPanic (wp_region_any D (vZ (S:=S) (ex:=ex) _ _ _ _ ?_));have:=Pg (P:=P) (S:=S) (md:=.any) F (Q:=NoPanic Q) (fun c a b w E=>(E:False).elim) l A 0 (Array.replicate l.length false) a w.drew (fun j=>by simp) C B h;simpa using this
theorem fT{k:Nat}{A:List Bool}{a:Act}{w:World}(h:Q .normal a w):qa P ops (NoPanic Q) S ex k A [] a w:=by
 cases A<;>exact h
theorem bC{k:Nat}{A:List Bool}{o:Oper}{rest:List Oper}{a:Act}{w:World}{v:Value}(C:Region.wanted o (yielded ops a.tmps)=true)(B:S w)(D:∀w',S w'->(execOp a.eval o).run P w'= .ok (.value v) w')
 (h:qa P ops Q S ex (k+1) A rest (a.put o.dst v) w):qa P ops Q S ex k (true::A) (o::rest) a w:=
 ⟨v,.inl ⟨C,D⟩,B,h⟩
theorem dU{k:Nat}{A:List Bool}{o:Oper}{rest:List Oper}{a:Act}{w:World}(C:Region.wanted o (yielded ops a.tmps)=false)(B:S w)
 (h:qa P ops Q S ex (k+1) A rest (a.put o.dst undef) w):qa P ops Q S ex k (true::A) (o::rest) a w:=
 ⟨undef,.inr ⟨C,rfl⟩,B,h⟩
theorem JA{k:Nat}{A:List Bool}{o:Oper}{rest:List Oper}{a:Act}{w:World}(C:Region.wanted o (yielded ops a.tmps)=true)
 (h:o.wp P a w (fun B w'=>(ex.contains k=false->S w')/\qa P ops Q S ex (k+1) A rest B w') Q):qa P ops Q S ex k (false::A) (o::rest) a w:=⟨C,h⟩
end
section
variable {P:Program}{ops:Array Oper}{Q:Exit->Act->World->Prop}{md:Region.Mode}{S:World->Prop}{ex:List Nat}
def vY(P:Program)(ops:Array Oper)(Q:Exit->Act->World->Prop)(S:World->Prop)(ex:List Nat):List (Nat×Bool)->Act->World->Prop
 | [],a,w=>Q .normal a w
 | (k,true)::ss,a,w=> ∃o,ops[k]? =some o/\∃v,YieldsIf P ops S o v a/\S w/\vY P ops Q S ex ss (a.put o.dst v) w
 | (k,false)::ss,a,w=> ∃o,ops[k]? =some o/\Region.wanted o (yielded ops a.tmps)=true/\o.wp P a w (fun a' w'=>(ex.contains k=false->S w')/\vY P ops Q S ex ss a' w') Q
def EK(md:Region.Mode)(ops:Array Oper)(ex:List Nat):List (Nat×Bool)->Array Bool->Bool
 | [],listed=>(Region.ready md ops listed).isEmpty
 | (k,true)::ss,listed=>Region.free md ops listed k&&(Region.ready md ops listed).contains k&&ex.all (fun j=>Region.waitsFor md ops j k)&&EK md ops ex ss (listed.setIfInBounds k true)
 | (k,false)::ss,listed=>(Region.ready md ops listed==[k])&&EK md ops ex ss (listed.setIfInBounds k true)
theorem Pf(X:Region.noSelect ops=true)(O:∀c a b w,Q (.panic c) a w->Q (.panic c) b w):∀(C:List (Nat×Bool)) (A:Array Bool) (a:Act) (w:World),
 EK md ops ex C A=true->vY P ops Q S ex C a w->yS P md ops Q S ex C.length A a w:=by
 intro C
 induction C with
 | nil=>
  intro A a w D h;exact⟨by simpa [EK] using D,by simpa [vY] using h⟩
 | cons s C ih=>
  intro A a w D h;obtain⟨k,s⟩:=s
  cases s with
  | true=>
   simp only[EK,acb]at D;obtain⟨⟨⟨E,F⟩,M⟩,N⟩:=D;obtain⟨o,B,v,Y,R,G⟩:=h;refine wu B (Region.noSelect_spec X) (fun j U=>?_) (fun c a w W=>O c _ _ w W) C.length A a w (Region.free_spec B E) (by simpa using F) Y R (ih _ _ w N G);exact List.all_eq_true.1 M j U
  | false=>
   simp only[EK,acb,beq_iff_eq]at D;obtain⟨E,F⟩:=D;obtain⟨o,B,T,G⟩:=h;refine⟨fun L=>(by rw[L]at E;cases E),fun i H=>?_⟩;rw[E]at H;simp at H;subst H;unfold wpOp;simp only[B,T,if_true];refine .inl (Oper.wp_mono (fun J w' I=>⟨fun V=>I.1 (by simpa using V),ih (A.setIfInBounds i true) J w' F I.2⟩) G)
theorem O9{G:Nat}{a:Act}{w:World}{l:List Oper}(S:World->Prop)(ex:List Nat)(A:List (Nat×Bool))(D:P.follows .mixedOrders=true)(F:Region.noSelect l.toArray=true)
 (C:A.length=l.length) (B:EK .any l.toArray ex A (Array.replicate l.length false)=true) (h:vY P l.toArray (NoPanic Q) S ex A a w.drew):(Code.region G l.toArray true).wp P Q a w:=by
 refine wp_region_noPanic (wp_region_any D (vZ (S:=S) (ex:=ex) _ _ _ _ ?_));have:=Pf (P:=P) (S:=S) (md:=.any) F (Q:=NoPanic Q) (fun c a b w E=>(E:False).elim) A (Array.replicate l.length false) a w.drew B h;simpa [C] using this
theorem ZR{a:Act}{w:World}(h:Q .normal a w):vY P ops (NoPanic Q) S ex [] a w:=h
theorem Xi{k:Nat}{A:List (Nat×Bool)}{o:Oper}{a:Act}{w:World}{v:Value}(D:ops[k]? =some o)(C:Region.wanted o (yielded ops a.tmps)=true)(B:S w)(E:∀w',S w'->(execOp a.eval o).run P w'= .ok (.value v) w')
 (h:vY P ops Q S ex A (a.put o.dst v) w):vY P ops Q S ex ((k,true)::A) a w:=
 ⟨o,D,v,.inl ⟨C,E⟩,B,h⟩
theorem Pb{k:Nat}{A:List (Nat×Bool)}{o:Oper}{a:Act}{w w':World}{v:Value}(D:ops[k]? =some o)(C:Region.wanted o (yielded ops a.tmps)=true)(E:(execOp a.eval o).run P w= .ok (.value v) w')(B:ex.contains k=false->S w')
 (h:vY P ops Q S ex A (a.put o.dst v) w'):vY P ops Q S ex ((k,false)::A) a w:=
 ⟨o,D,C,by unfold Oper.wp;rw[E];exact⟨B,h⟩⟩
theorem Xj{k:Nat}{A:List (Nat×Bool)}{o:Oper}{a:Act}{w w':World}(D:ops[k]? =some o)(C:Region.wanted o (yielded ops a.tmps)=true)(E:(execOp a.eval o).run P w= .ok .skip w')(B:ex.contains k=false->S w')
 (h:vY P ops Q S ex A (a.put o.dst undef) w'):vY P ops Q S ex ((k,false)::A) a w:=
 ⟨o,D,C,by unfold Oper.wp;rw[E];exact⟨B,h⟩⟩
theorem ZT{k:Nat}{A:List (Nat×Bool)}{o:Oper}{a:Act}{w:World}(D:ops[k]? =some o)(C:Region.wanted o (yielded ops a.tmps)=true)
 (h:o.wp P a w (fun B w'=>(ex.contains k=false->S w')/\vY P ops Q S ex A B w') Q):vY P ops Q S ex ((k,false)::A) a w:=⟨o,D,C,h⟩
end
open Go.RowKit
open Go.ChangeMaps (setBlock)
def mq{K:Type}[DecidableEq K](k:K):List (K×Value)->Nat->Option (Nat×Value)
 | [],_=>none
 | x::m,i=>if k=x.1 then some (i,x.2) else mq k m (i+1)
def mM{K:Type}[DecidableEq K](m:List (K×Value))(k:K):Option Value:=(mq k m 0).map (·.2)
structure nW (K:Type) [DecidableEq K] where
 fQ:K->Value
 desc:TypeDesc
 same:∀k j,Instr.sameNow desc (fQ k) (fQ j)=some (decide (k=j))
 check:∀(P:Program) (kt:TypeId) (b:Bool) (n:Nat) (k:K) (w:World),P.underlying kt=some desc->(Instr.checkKey b (n+1) kt (fQ k)).run P w= .ok () w
 bits:∀k,Instr.sameBits 10000 (fQ k) (fQ k)=true
theorem Zh(k j:ByteArray):(k==j)=decide (k=j):=by
 obtain⟨a⟩:=k;obtain⟨b⟩:=j;show(a==b)=_;rw[Bool.eq_iff_iff];simp
def jS:nW ByteArray where
 fQ:=.string
 desc:=.string
 same k j:=by simp[Instr.sameNow,Zh]
 check P kt b n k w h:=by simp[Instr.checkKey,run_underlying h]
 bits k:=by simp[Instr.sameBits,Zh]
def iU:nW Int where
 fQ:=.int .i64
 desc:=.int .i64
 same k j:=by simp[Instr.sameNow];rw[Bool.eq_iff_iff];simp
 check P kt b n k w h:=by simp[Instr.checkKey,run_underlying h]
 bits k:=by simp[Instr.sameBits]
section
variable {K:Type} [DecidableEq K] {KK:nW K}
theorem KQ(k:K):∀(m:List (K×Value)) (i j:Nat),mq k m (i+j)=(mq k m j).map fun x=>(i+x.1,x.2)
 | [],i,j=>rfl
 | x::m,i,j=>by
  unfold mq;by_cases h:k=x.1
  ·simp[h]
  rw[if_neg h,if_neg h,Nat.add_assoc,KQ k m i (j+1)]
theorem LJ(k:K):∀(A:List MapEntry) (m:List (K×Value)) (i:Nat),A.map (fun e=>(e.key,e.val))=m.map (fun x=>(KK.fQ x.1,x.2))->Instr.findNow KK.desc (KK.fQ k) A i=some (mq k m i)
 | [],m,i,h=>by
  cases m with
  | nil=>rfl
  | cons x m=>simp at h
 | e::A,m,i,h=>by
  cases m with
  | nil=>simp at h
  | cons x m=>
   simp only[List.map_cons,List.cons.injEq,Prod.mk.injEq]at h;obtain⟨⟨C,D⟩,E⟩:=h;unfold Instr.findNow mq;rw[C,KK.same];by_cases B:k=x.1
   ·simp[B,D]
   simp only[B,decide_false,if_false];exact LJ k A m (i+1) E
def aY(KK:nW K)(w:World)(r:Nat)(m:List (K×Value)):Prop:=
 ∃es clock,w.heap[r]? =some (.map es clock)/\es.toList.map (fun e=>(e.key,e.val))=m.map (fun x=>(KK.fQ x.1,x.2))/\(∀e∈es.toList,e.born<clock)/\(es.toList.map (·.born)).Nodup
variable {w w':World}{r:Nat}{m:List (K×Value)}
theorem aY.keep(h:aY KK w r m)(E:w'.heap[r]? =w.heap[r]?):aY KK w' r m:=by
 obtain⟨B,A,C,D⟩:=h;exact⟨B,A,E.trans C,D⟩
theorem aY.lt(h:aY KK w r m):r<w.heap.size:=by
 obtain⟨C,A,B,_⟩:=h;exact(acd.1 B).1
theorem aY.alloc(h:aY KK w r m)(o:Obj):aY KK (w.alloc o) r m:=h.keep (Below.heap_alloc w o r h.lt)
theorem aY.drew(h:aY KK w r m):aY KK w.drew r m:=h
theorem aY.drewN(h:aY KK w r m)(n:Nat):aY KK (w.drewN n) r m:=h
theorem aY.setCell(h:aY KK w r m){p:Addr}(A:r≠p.block)(u:Value):aY KK (w.setCell p u) r m:=h.keep (Below.heap_setCell w p u r A)
theorem aY.below{B:Nat}(h:aY KK w r m)(A:Below B w w')(C:r<B):aY KK w' r m:=h.keep (A.block r C)
theorem aY.since{S:Nat->Prop}(h:aY KK w r m)(B:ak S w w')(A:¬S r):aY KK w' r m:=h.keep (B.block r h.lt A)
theorem aY.made(w:World):aY KK (w.alloc (.map #[] 0)) w.heap.size []:=⟨#[],0,heap_alloc_new w _,rfl,by simp,by simp⟩
variable {P:Program}{t kt et:TypeId}
theorem tX(B:P.underlying kt=some KK.desc)(k:K)(A:List MapEntry)(h:A.map (fun e=>(e.key,e.val))=m.map (fun x=>(KK.fQ x.1,x.2)))(w:World):
 (Instr.findKey kt (KK.fQ k) A).run P w= .ok (mq k m 0) w:=by
 simp[Instr.findKey,run_underlying B,LJ k A m 0 h]
theorem zJ(F:P.underlying t=some (.map kt et))(B:P.underlying kt=some KK.desc){z:Value}(G:∀w,(zeroValue et).run P w= .ok z w)(h:aY KK w r m)(k:K):
 (Instr.lookup t (.map (some r)) (KK.fQ k) false).run P w= .ok ((mM m k).getD z) w:=by
 obtain⟨C,A,D,E,H⟩:=h;simp[Instr.lookup,run_underlying F,MapKept.run_getObj_map D,KK.check _ _ _ _ _ _ B,tX B k C.toList E];unfold mM
 cases mq k m 0 with
 | none=>simp[G]
 | some x=>simp
theorem wG(F:P.underlying t=some (.map kt et))(B:P.underlying kt=some KK.desc){z:Value}(G:∀w,(zeroValue et).run P w= .ok z w)(h:aY KK w r m)(k:K):
 (Instr.lookup t (.map (some r)) (KK.fQ k) true).run P w= .ok (.tuple #[(mM m k).getD z,.bool (mM m k).isSome]) w:=by
 obtain⟨C,A,D,E,H⟩:=h;simp[Instr.lookup,run_underlying F,MapKept.run_getObj_map D,KK.check _ _ _ _ _ _ B,tX B k C.toList E];unfold mM
 cases mq k m 0 with
 | none=>simp[G]
 | some x=>simp
def oD(m:List (K×Value))(k:K)(v:Value):List (K×Value):=
 match mq k m 0 with
 | none=>m++[(k,v)]
 | some (i,_)=>m.modify i fun _=>(k,v)
theorem Ik(k:K):∀(m:List (K×Value)) (j i:Nat) (v:Value),mq k m j=some (i,v)->∃n,i=j+n/\m[n]? =some (k,v)
 | [],j,i,v,h=>by cases h
 | x::m,j,i,v,h=>by
  unfold mq at h;by_cases A:k=x.1
  ·rw[if_pos A]at h
   cases h
   exact⟨0,rfl,by rw[A];rfl⟩
  rw[if_neg A]at h;obtain⟨n,C,B⟩:=Ik k m (j+1) i v h;exact⟨n+1,by omega,by simpa using B⟩
theorem wM{A β:Type}(f:A->β)(g:A->A)(B:β->β)(h:∀x,f (g x)=B (f x)):∀(l:List A) (i:Nat),(l.modify i g).map f=(l.map f).modify i B
 | [],i=>by simp
 | x::l,0=>by simp[List.modify_zero_cons,h]
 | x::l,i+1=>by simp[List.modify_succ_cons,wM f g B h l i]
theorem iO(Z:P.underlying t=some (.map kt et))(M:P.underlying kt=some KK.desc)(h:aY KK w r m)(k:K)(v:Value):
 ∃N,(Instr.mapUpdate t (.map (some r)) (KK.fQ k) v).run P w= .ok () N/\aY KK N r (oD m k v)/\w.grownBy N (some r)/\N.heap.size=w.heap.size:=by
 obtain⟨C,A,F,G,O,X⟩:=h;have U:r<w.heap.size:=(acd.1 F).1
 have J:∀o:Obj,w.grownBy { w with heap:=w.heap.setIfInBounds r o } (some r):=fun o=>
  ⟨rfl,rfl,rfl,by simp,fun i _ l=>by simp[Array.getElem?_setIfInBounds];intro e;exact absurd (by rw[e]) l⟩
 have H:∀o:Obj,({ w with heap:=w.heap.setIfInBounds r o }:World).heap[r]? =some o:=fun o=>by simp[U]
 unfold oD
 cases W:mq k m 0 with
 | none=>
  refine⟨{ w with heap:=w.heap.setIfInBounds r (.map (C.push { key:=KK.fQ k,val:=v,born:=A }) (A+1)) },?_,⟨_,_,H _,?_,?_,?_⟩,J _,by simp⟩
  ·simp[Instr.mapUpdate,run_underlying Z,MapKept.run_getObj_map F,KK.check _ _ _ _ _ _ M,tX M k C.toList G,W,MapKept.run_setObj_map _ F]
  ·simp[G]
  ·intro e D
   simp at D;rcases D with D|rfl
   ·have:=O e (by simpa using D)
    omega
   simp
  simp only[Array.toList_push,List.map_append,List.map_cons,List.map_nil]
  rw[List.nodup_append];refine⟨X,by simp,fun a Y b L=>?_⟩;simp at L;subst L;simp only[List.mem_map]at Y;obtain⟨e,D,rfl⟩:=Y;have:=O e D;omega
 | some x=>
  obtain⟨i,z⟩:=x;obtain⟨n,j,y⟩:=Ik k m 0 i z W;have T:i=n:=by omega
  subst T;have B:(C.toList.map fun e=>(e.key,e.val))[i]? =some (KK.fQ k,z):=by rw[G];simp[y]
  rw[List.getElem?_map]at B
  cases E:C.toList[i]? with
  | none=>rw[E]at B;cases B
  | some e0=>
   rw[E]at B;simp at B;have I:C[i]? =some e0:=by simpa using E
   refine⟨{ w with heap:=w.heap.setIfInBounds r (.map (C.modify i fun e=> { e with key:=KK.fQ k,val:=v }) A) },?_,⟨_,_,H _,?_,?_,?_⟩,J _,by simp⟩
   ·simp[Instr.mapUpdate,run_underlying Z,MapKept.run_getObj_map F,KK.check _ _ _ _ _ _ M,tX M k C.toList G,W,MapKept.run_setObj_map _ F,Instr.keyThatStays,I,B.1,KK.bits]
   ·rw[Array.toList_modify,wM (fun e:MapEntry=>(e.key,e.val)) _ (fun _=>(KK.fQ k,v)) (fun _=>rfl),G,wM (fun x:K×Value=>(KK.fQ x.1,x.2)) (fun _=>(k,v)) (fun _=>(KK.fQ k,v)) (fun _=>rfl)]
   ·have L:=wM (fun e:MapEntry=>e.born) (fun e=> { e with key:=KK.fQ k,val:=v }) id (fun _=>rfl) C.toList i
    intro e D;rw[Array.toList_modify]at D;have V:e.born∈((C.toList.modify i fun e=> { e with key:=KK.fQ k,val:=v }).map fun e:MapEntry=>e.born):=List.mem_map.2 ⟨e,D,rfl⟩;rw[L]at V;simp at V;obtain⟨u,R,q⟩:=V;rw[<- q];exact O u (by simpa using R)
   rw[Array.toList_modify,wM (fun e:MapEntry=>e.born) (fun e=> { e with key:=KK.fQ k,val:=v }) id (fun _=>rfl)];simpa using X
def ma(KK:nW K)(w:World)(r b:Nat)(m:List (K×Value))(left:List (Value×Value)):Prop:=
 ∃es clock seen c0,w.heap[r]? =some (.map es clock)/\es.toList.map (fun e=>(e.key,e.val))=m.map (fun x=>(KK.fQ x.1,x.2))/\(∀e∈es.toList,e.born<clock)/\(es.toList.map (·.born)).Nodup /\
  w.heap[b]? =some (.mapIter (some r) clock seen c0)/\clock<=c0/\left=(leftOf es seen).toList.map fun e=>(e.key,e.val)
theorem ma.sQ{b:Nat}{left:List (Value×Value)}(h:ma KK w r b m left):aY KK w r m:=by
 obtain⟨C,A,B,H,D,E,F,G,-⟩:=h;exact⟨C,A,D,E,F,G⟩
theorem ma.keep{b:Nat}{left:List (Value×Value)}(h:ma KK w r b m left)(M:w'.heap[r]? =w.heap[r]?)(L:w'.heap[b]? =w.heap[b]?):ma KK w' r b m left:=by
 obtain⟨D,A,B,C,E,F,G,H,I,J⟩:=h;exact⟨D,A,B,C,M.trans E,F,G,H,L.trans I,J⟩
theorem Be(G:P.underlying t=some (.map kt et))(h:aY KK w r m):
 ∃w',(Instr.range t (.map (some r))).run P w= .ok (.pointer (some ⟨w.heap.size,0,none⟩)) w'/\ma KK w' r w.heap.size m (m.map fun x=>(KK.fQ x.1,x.2))/\Below w.heap.size w w'/\w'.heap.size=w.heap.size+1:=by
 obtain⟨C,A,B,D,E,F⟩:=h;refine⟨_,run_range_map w t kt et r C A G B,⟨C,A,#[],A,?_,D,E,F,heap_alloc_new w _,ab9 _,?_⟩,ai _ _,by simp⟩
 ·exact(Below.heap_alloc w _ r (acd.1 B).1).trans B
 unfold leftOf;rw[<- D,Array.toList_filter];congr 1
 exact(List.filter_eq_self.2 fun e _=>by simp).symm
theorem Dx:∀(l:List MapEntry) (e:MapEntry),(l.map (·.born)).Nodup->e∈l->l.Perm (e::l.filter fun x=> !(x.born==e.born))
 | [],e,_,h=>by cases h
 | x::l,e,hn,h=>by
  simp only[List.map_cons,List.nodup_cons]at hn;rcases List.mem_cons.1 h with rfl|h
  ·have C:(l.filter fun x=> !(x.born==e.born))=l:=by
    rw[List.filter_eq_self];intro y E;simp;intro A;exact hn.1 (by rw[<- A];exact List.mem_map.2 ⟨y,E,rfl⟩)
   simp[C]
  have B:x.born≠e.born:=by
   intro A;exact hn.1 (by rw[A];exact List.mem_map.2 ⟨e,h,rfl⟩)
  have:=Dx l e hn.2 h;have D:(!(x.born==e.born))=true:=by simp[B]
  rw[List.filter_cons,if_pos D];exact(List.Perm.cons x this).trans (List.Perm.swap e x _)
theorem CK{b:Nat}{left:List (Value×Value)}(U:TypeId)(h:ma KK w r b m left)(R:r≠b):
 (left=[]/\(Instr.next (.pointer (some ⟨b,0,none⟩)) false U).run P w= .ok (.tuple #[.bool false]) w) \/
 ∃k v E w',left.Perm ((k,v)::E)/\(k,v)∈(m.map fun x=>(KK.fQ x.1,x.2))/\(Instr.next (.pointer (some ⟨b,0,none⟩)) false U).run P w= .ok (.tuple #[.bool true,k,v]) w' /\
  ma KK w' r b m E/\ak (fun g=>g=b) w w'/\w'.heap.size=w.heap.size/\(Instr.entry (.pointer (some ⟨b,0,none⟩))).run P w'= .ok (.tuple #[k,v]) w':=by
 obtain⟨F,A,B,y,V,W,X,M,Y,u,Z⟩:=h;rcases run_next_at (P:=P) w U b r A y B F A Y V X u with⟨q,l⟩| ⟨e,z,L,T,J⟩
 ·left
  refine⟨?_,l⟩;rw[Z];have:(leftOf F B)= #[]:=Array.eq_empty_of_size_eq_zero q;rw[this];rfl
 right
 have O:b<w.heap.size:=(acd.1 Y).1
 have C:ak (fun g=>g=b) w L/\L.heap=w.heap:=by
  rcases T with rfl|rfl
  ·exact⟨ak.refl _ _,rfl⟩
  exact⟨(ak.refl _ _).drew,rfl⟩
 have D:∀g o,g≠b->(setBlock L b o).heap[g]? =w.heap[g]? :=by
  intro g o N;simp[setBlock,C.2,Ne.symm N]
 have G:=mem_left z;have I:(setBlock L b (.mapIter (some r) A (B.push e.born) A)).heap[r]? =some (.map F A):=(D r _ R).trans V
 have H:(setBlock L b (.mapIter (some r) A (B.push e.born) A)).heap[b]? =some (.mapIter (some r) A (B.push e.born) A):=by
  simp[setBlock,C.2,O]
 refine⟨e.key,e.val,(leftOf F (B.push e.born)).toList.map fun e=>(e.key,e.val),_,?_,?_,J,⟨F,A,B.push e.born,A,I,W,X,M,H,ab9 _,rfl⟩,?_,?_,run_entry_at _ b r A B F A e H I G.1 M⟩
 ·rw[Z]
  have d:=Dx (leftOf F B).toList e (by
   unfold leftOf;rw[Array.toList_filter]
   exact List.Nodup.sublist (List.Sublist.map _ List.filter_sublist) M) z
  have j:(leftOf F (B.push e.born)).toList=(leftOf F B).toList.filter fun x=> !(x.born==e.born):=by
   unfold leftOf;rw[Array.toList_filter,Array.toList_filter,List.filter_filter];congr 1
   funext x
   rw[contains_push];cases B.contains x.born<;>cases x.born==e.born<;>rfl
  rw[j];exact d.map _
 ·rw[<- W]
  exact List.mem_map.2 ⟨e,G.1,rfl⟩
 ·exact⟨C.1.os,C.1.tape,C.1.output,by simp[setBlock,C.2],fun g _ N=>D g _ N⟩
 simp[setBlock,C.2]
end
section
variable {K:Type} [DecidableEq K] {KK:nW K}{P:Program}(w:World) {ops:Array Oper}{rest:List Oper}{o:Oper}{a:Act}{Q:Exit->Act->World->Prop}
theorem uW(D:o.guard=none)(m x v:Operand)(t:TypeId)(F:o.op=Op.insert t m x v)(kt et:TypeId)(O:P.underlying t=some (.map kt et))(E:P.underlying kt=some KK.desc)(r:Nat)(l:List (K×Value))(key:K)(val:Value)
 (N:a.eval m= .map (some r)) (T:a.eval x=KK.fQ key) (R:a.eval v=val) (h:aY KK w r l) {B:Nat}{H:World}(M:Below B H w) (G:B<=r)
 (L:∀w',aY KK w' r (oD l key val)->Below B H w'->wpList P ops Q rest (a.put o.dst undef) w'):wpList P ops Q (o::rest) a w:=by
 refine wpList_plain D fun U C=>?_
 obtain⟨w',A,I,J,V⟩:=iO O E h key val;unfold Oper.wp;simp[execOp,F,N,T,R,A,Result.andThen];exact C _ _ (L w' I (M.trans (((ak.refl (fun g=>B<=g) w).grown J (fun k E=>by cases E;exact .inl G)).toBelow (Nat.le_of_lt (Nat.lt_of_le_of_lt G h.lt)) (fun g D=>D))))
end
theorem KO(v:Value)(x:ByteArray):∀(A:List kM) (i:Nat),(mq x (A.map fun b=>(sP b,v)) i).map (·.2)=if wW A x.data.toList then some v else none
 | [],i=>rfl
 | b::A,i=>by
  unfold wW;simp only[List.map_cons,mq,List.any_cons];by_cases h:x=sP b
  ·rw[if_pos h]
   have:b=x.data.toList:=by rw[h];simp[sP]
   simp[this]
  rw[if_neg h]
  have:decide (b=x.data.toList)=false:=by
   apply decide_eq_false
   rintro rfl;exact h (by cases x;simp[sP])
  have B:=KO v x A (i+1);unfold wW at B;rw[B];simp[this]
theorem SY(v:Value)(A:List kM)(x:ByteArray):mM (A.map fun b=>(sP b,v)) x=if wW A x.data.toList then some v else none:=KO v x A 0
end Go.Proofs.YtoepemlnlpamlaaGreat
