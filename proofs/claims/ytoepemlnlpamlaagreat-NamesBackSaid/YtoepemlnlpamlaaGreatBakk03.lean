/- The law NamesBack holds for every text and every number: it returns true, and its arguments read as before. No condition. Part 3: Mem Since Lex LexS. -/
import Derived.WalkKit
import Derived.WalkSpells
import Derived.WalkLawsBesides
import Derived.Deep.AppendSrc
import Derived.Deep.AppendLies
import Derived.Deep.Draws
import Derived.Deep.Upon
import Derived.Lib.Hide
import Derived.Deep.LoopGhost
import Derived.Deep.RegionHeld3
import Derived.Deep.RegionLaw
import Derived.Deep.DeepCutAuto
import Derived.Deep.DeepFit
import Derived.Deep.QuietTactic
import Derived.BigQuiet
import Derived.BigRegion
import Derived.StillTailTactics
import Derived.Maps.Own
import Derived.Lib.Strings
import Derived.Test.YtoepemlnlpamlaaGreatBakk01
import Derived.Test.YtoepemlnlpamlaaGreatBakk02
set_option maxRecDepth 100000
set_option maxHeartbeats 4000000
namespace Go.Proofs.YtoepemlnlpamlaaGreat
open Go.RowKit
def bW{α:Type}(size:Nat)(cells:α->List Value)(w:World)(B:Nat)(A:Option Addr)(l:List α):Prop:=
 ∀k c,l[k]? =some c->∃b off,A=some ⟨b,off,none⟩/\b<B/\∀j v,(cells c)[j]? =some v->w.cell? ⟨b,off+k*size+j,none⟩=some v
theorem bW.below{α:Type}{size:Nat}{cells:α->List Value}{w w':World}{B B':Nat}{A:Option Addr}{l:List α}(h:bW size cells w B A l)(hb:Below B' w w')(hB:B<=B'):
 bW size cells w' B A l:=by
 intro k c hk;obtain⟨b,off,hA,hlt,hc⟩:=h k c hk;exact⟨b,off,hA,hlt,fun j v hj=>(hb.cell (p:=⟨b,_,none⟩) (by show b<B';omega)).trans (hc j v hj)⟩
theorem bW.mono{α:Type}{size:Nat}{cells:α->List Value}{w:World}{B B':Nat}{A:Option Addr}{l:List α}(h:bW size cells w B A l)(hB:B<=B'):bW size cells w B' A l:=by
 intro k c hk;obtain⟨b,off,hA,hlt,hc⟩:=h k c hk;exact⟨b,off,hA,by omega,hc⟩
def ai(w:World)(g:Nat)(t:TypeId)(cs:Array Value):Prop:=w.heap[g]? =some (.cells cs t (0,0))
section
variable {w w':World}{g:Nat}{t:TypeId}{cs:Array Value}
theorem ai.lt(h:ai w g t cs):g<w.heap.size:=(aaG.1 h).1
theorem ai.cell(h:ai w g t cs)(i:Nat):w.cell? ⟨g,i,none⟩=cs[i]? :=cell_of_row w g i cs t (0,0) h
theorem ai.frozen(h:ai w g t cs)(i:Nat):w.frozen? ⟨g,i,none⟩=false:=by
 unfold ai at h;simp[World.frozen?,h]
theorem ai.keep(h:ai w g t cs)(hk:w'.heap[g]? =w.heap[g]?):ai w' g t cs:=hk.trans h
theorem ai.new(w:World)(t:TypeId)(cs:Array Value):ai (w.alloc (.cells cs t)) w.heap.size t cs:=heap_alloc_new w _
theorem ai.drew(h:ai w g t cs):ai w.drew g t cs:=h
theorem ai.alloc(h:ai w g t cs)(o:Obj):ai (w.alloc o) g t cs:=h.keep (Below.heap_alloc w o g h.lt)
theorem ai.fU(h:ai w g t cs)(i:Nat)(u:Value):ai (w.setCell ⟨g,i,none⟩ u) g t (cs.setIfInBounds i u):=by
 unfold ai at h⊢;simp[World.setCell,Array.getElem?_modify,h]
theorem ai.far(h:ai w g t cs){p:Addr}(hp:g≠p.block)(u:Value):ai (w.setCell p u) g t cs:=h.keep (Below.heap_setCell w p u g hp)
theorem ai.below{B:Nat}(h:ai w g t cs)(hb:Below B w w')(hg:g<B):ai w' g t cs:=h.keep (hb.block g hg)
theorem ai.grown{row:Option Nat}(h:ai w g t cs)(hb:w.grownBy w' row)(hg:some g≠row):ai w' g t cs:=h.keep (hb.block g h.lt hg)
end
def aL(w:World)(base:Nat)(e:TypeId)(size:Nat)(v:Value)(n:Nat)(xs:List Value):Prop:=
 xs.length=n*size/\((v= .slice none 0 0/\n=0) \/
  ∃g off cap cur,v= .slice (some ⟨g,off,none⟩) n cap/\base<=g/\w.heap[g]? =some (.cells cur e (0,0))/\n<=cap/\cap<=maxLen/\off+cap*size<=cur.size/\(cur.toList.drop off).take (n*size)=xs)
section
variable {w w':World}{base:Nat}{e:TypeId}{size:Nat}{v:Value}{n:Nat}{xs:List Value}
theorem aL.nil(w:World)(base:Nat)(e:TypeId)(size:Nat):aL w base e size (.slice none 0 0) 0 []:=⟨by simp,.inl ⟨rfl,rfl⟩⟩
theorem aL.block{g:Nat}{cur:Array Value}{n:Nat}(hb:base<=g)(hg:w.heap[g]? =some (.cells cur e (0,0)))(hm:n<=maxLen)(hs:cur.size=n*size):aL w base e size (.slice (some ⟨g,0,none⟩) n n) n cur.toList:=
 ⟨by simpa using hs,.inr ⟨g,0,n,cur,rfl,hb,hg,aaD _,hm,by omega,by rw[List.drop_zero,List.take_of_length_le (by simp;omega)]⟩⟩
theorem aL.lt(h:aL w base e size v n xs):∀k,v.ownBlock=some k->base<=k/\k<w.heap.size:=by
 intro k hk;rcases h.2 with⟨rfl,_⟩| ⟨g,off,cap,cur,rfl,hb,hg,_⟩
 ·simp[Value.ownBlock]at hk
 ·simp[Value.ownBlock]at hk
  subst hk;exact⟨hb,(aaG.1 hg).1⟩
theorem aL.form(h:aL w base e size v n xs)(hn:0<n):∃g off cap,v= .slice (some ⟨g,off,none⟩) n cap/\n<=cap/\cap<=maxLen/\base<=g/\g<w.heap.size/\∀j u,xs[j]? =some u->w.cell? ⟨g,off+j,none⟩=some u:=by
 rcases h.2 with⟨_,h0⟩| ⟨g,off,cap,cur,hv,hb,hg,hn,hm,hs,ht⟩
 ·omega
 ·refine⟨g,off,cap,hv,hn,hm,hb,(aaG.1 hg).1,fun j u hu=>?_⟩
  rw[cell_of_row w g (off+j) cur e (0,0) hg];rw[<- ht,List.getElem?_take]at hu;split at hu
  ·rw[List.getElem?_drop]at hu
   simpa using hu
  ·cases hu
theorem aL.shape(h:aL w base e size v n xs):∃A c,v= .slice A n c/\n<=c/\c<=maxLen:=by
 rcases h.2 with⟨rfl,rfl⟩| ⟨g,off,cap,cur,hv,hb,hg,hn,hm,hs,ht⟩
 ·exact⟨none,0,rfl,aaD _,by simp[maxLen]⟩
 ·exact⟨_,_,hv,hn,hm⟩
theorem aL.of_block(h:aL w base e size v n xs)(hk:∀g,v.ownBlock=some g->w'.heap[g]? =w.heap[g]?):aL w' base e size v n xs:=by
 refine⟨h.1,?_⟩;rcases h.2 with h0| ⟨g,off,cap,cur,hv,hb,hg,rest⟩
 ·exact .inl h0
 ·exact .inr ⟨g,off,cap,cur,hv,hb,(hk g (by rw[hv];rfl)).trans hg,rest⟩
theorem aL.kept{row:Option Nat}(h:aL w base e size v n xs)(hg:w.grownBy w' row)(hne:v.ownBlock=none\/v.ownBlock≠row):aL w' base e size v n xs:=
 h.of_block fun g hv=>hg.block g (h.lt g hv).2 (by rcases hne with h0|h0<;>simp_all)
theorem aL.below{B:Nat}(h:aL w base e size v n xs)(hb:Below B w w')(hlt:∀g,v.ownBlock=some g->g<B):aL w' base e size v n xs:=
 h.of_block fun g hv=>hb.block g (hlt g hv)
theorem aL.alloc(h:aL w base e size v n xs)(o:Obj):aL (w.alloc o) base e size v n xs:=
 h.of_block fun g hv=>Below.heap_alloc w o g (h.lt g hv).2
theorem aL.drew(h:aL w base e size v n xs):aL w.drew base e size v n xs:=h
theorem aL.setCell(h:aL w base e size v n xs){p:Addr}(hp:v.ownBlock≠some p.block)(u:Value):aL (w.setCell p u) base e size v n xs:=
 h.of_block fun g hv=>Below.heap_setCell w p u g (fun e1=>hp (by rw[hv,e1]))
theorem aL.mono{base':Nat}(h:aL w base e size v n xs)(hb:base'<=base):aL w base' e size v n xs:=by
 refine⟨h.1,?_⟩;rcases h.2 with h0| ⟨g,off,cap,cur,hv,hb',rest⟩
 ·exact .inl h0
 ·exact .inr ⟨g,off,cap,cur,hv,by omega,rest⟩
theorem aL.rowAt{α:Type}{cells:α->List Value}{l:List α}(h:aL w base e size v n xs){A:Option Addr}{c:Nat}(hv:v= .slice A n c)(hxs:xs=l.flatMap cells)(hl:∀c∈l,(cells c).length=size)(hn:l.length=n):
 bW size cells w w.heap.size A l:=by
 intro k x hk;have hkn:k<n:=by rw[<- hn];exact(aaJ.1 hk).1
 obtain⟨g,off,cap,hv',_,_,_,hlt,hc⟩:=h.form (by omega);rw[hv]at hv';cases hv'
 refine⟨g,off,rfl,hlt,fun j u hj=>?_⟩;rw[Nat.add_assoc];refine hc _ _ ?_;subst hxs;clear h hv hlt hc hkn hn
 induction l generalizing k with
 | nil=>simp at hk
 | cons y ys ih=>
  have hy:=hl y (by simp);have hjs:j<(cells x).length:=(aaJ.1 hj).1;rw[List.flatMap_cons]
  cases k with
  | zero=>
   simp at hk;subst hk;rw[List.getElem?_append_left (by omega),<- hj];simp
  | succ k=>
   rw[aaN (by rw[hy,Nat.succ_mul];omega),hy];have:=ih (fun c hc=>hl c (by simp[hc])) k (by simpa using hk);rw[<- this];congr 1
   rw[Nat.succ_mul];omega
end
section
variable {P:Program}(w:World)
theorem Ee(t ty e:TypeId)(i:TypeInfo)(ht:P.underlying t=some (.slice e))(hi:P.info? e=some i)
 (g off sLen sCap:Nat) (cur:Array Value) (hg:w.heap[g]? =some (.cells cur e (0,0)))
 (a:Addr) (m c:Nat) (news:List Value) (hl:news.length=m*i.size) (hnews:∀j u,news[j]? =some u->w.cell? (a.add j)=some u) (h1:∀u∈news,u.oneCell'=true)
 (hroom:sLen+m<=sCap) (hfit:off+sLen*i.size+news.length<=cur.size):
 (Builtin.append_ #[t,t] ty #[.slice (some ⟨g,off,none⟩) sLen sCap,.slice (some a) m c]).run P w=
  .ok (.slice (some ⟨g,off,none⟩) (sLen+m) sCap) (w.setRow g (cur.toList.take (off+sLen*i.size)++news++cur.toList.drop (off+sLen*i.size+news.length)).toArray):=by
 have hf:=run_firstCells_some (P:=P) w i.size m a m c news hl hnews;have hst:=run_storeCells_at P g (off+sLen*i.size) e news 0 cur w hg (by simpa using hfit) h1;simp only[Nat.add_zero]at hst;simp[Builtin.append_,run_underlying ht,sizeOf,typeInfo,hi,Builtin.lenOf,hroom,hf,Addr.add_lit,hst]
theorem OG(base:Nat)(t ty e:TypeId)(i:TypeInfo)(z:Value)(size bytes:Nat)(ht:P.underlying t=some (.slice e))(hi:P.info? e=some i)(hz:i.zero=some z)
 (hsize:i.size=size) (hby:i.bytes=bytes) (hzs:z.cells.size=size)
 (v:Value) (n:Nat) (xs:List Value) (hown:aL w base e size v n xs)
 (a:Addr) (m c:Nat) (news:List Value) (hl:news.length=m*size) (hnews:∀j u,news[j]? =some u->w.cell? (a.add j)=some u) (h1:∀u∈news,u.oneCell'=true)
 (h63:n+m<=maxLen) (hbytes:(n+m)*bytes<=140737488355328) (hbase:base<=w.heap.size):
 ∃v' w',(Builtin.append_ #[t,t] ty #[v,.slice (some a) m c]).run P w= .ok v' w'/\aL w' base e size v' (n+m) (xs++news)/\w.grownBy w' v.ownBlock /\
  (v'.ownBlock=v.ownBlock\/v'.ownBlock=some w.heap.size):=by
 subst hsize;subst hby;have hsmall:n+m<=9223372036854775807:=by simp only[maxLen]at h63;omega
 have hlen:(xs++news).length=(n+m)*i.size:=by rw[aaO,hown.1,hl,Nat.add_mul]
 have grown:∀(old:Nat),old<n+m->∀(row:Option Nat),
  aL (w.drew.alloc (.cells (xs.toArray++news.toArray++Builtin.zeroCells z.cells (grownCap w (n+m) old e - (n+m))) e)) base e i.size
   (.slice (some ⟨w.heap.size,0,none⟩) (n+m) (grownCap w (n+m) old e)) (n+m) (xs++news) /\
  w.grownBy (w.drew.alloc (.cells (xs.toArray++news.toArray++Builtin.zeroCells z.cells (grownCap w (n+m) old e - (n+m))) e)) row:=by
  intro old ho row;have hge:=grownCap_ge w (n+m) old e;have hcm:grownCap w (n+m) old e<=maxLen:=grownCap_le_maxLen w (n+m) old e h63;refine⟨⟨hlen,.inr ⟨w.heap.size,0,_,_,rfl,hbase,heap_alloc_new w.drew _,hge,hcm,?_,?_⟩⟩,⟨rfl,rfl,rfl,by simp,fun k hk _=>Below.heap_alloc w.drew _ k hk⟩⟩
  ·simp only[Array.size_append,List.size_toArray,size_zeroCells,hzs,hown.1,hl,<- Nat.add_mul]
   rw[Nat.zero_add];exact Nat.mul_le_mul_right _ (by omega)
  ·simp only[Array.toList_append,List.append_assoc,List.drop_zero]
   rw[<- List.append_assoc,<- hlen];exact List.take_left
 rcases hown.2 with⟨rfl,rfl⟩| ⟨g,off,cap,cur,rfl,hbg,hg,hnc,hcm,hcs,htake⟩
 ·have hx:xs=[]:=List.eq_nil_of_length_eq_zero (by simpa using hown.1)
  subst hx;by_cases hm:m=0
  ·subst hm
   have hn:news=[]:=List.eq_nil_of_length_eq_zero (by simpa using hl);subst hn;refine⟨.slice none 0 0,w,?_,aL.nil w base e i.size,⟨rfl,rfl,rfl,aaD _,fun _ _ _=>rfl⟩,.inl rfl⟩;simp[Builtin.append_,run_underlying ht,sizeOf,typeInfo,hi,Builtin.lenOf,Builtin.firstCells,loadCells,loadCellsFrom]
  ·have hr:=run_append_nil (P:=P) w t ty e i z ht hi hz a m c news hl hnews (by omega) (by omega) (by have hb:=hbytes;simp only[Nat.zero_add]at hb;omega)
   have hgr:=grown 0 (by omega) (Value.ownBlock (.slice none 0 0));simp only[Nat.zero_add,List.nil_append,Array.empty_append]at hgr⊢;exact⟨_,_,hr,hgr.1,hgr.2,.inr rfl⟩
 ·by_cases hroom:n+m<=cap
  ·have hfit:off+n*i.size+news.length<=cur.size:=by
    rw[hl];have h2:(n+m)*i.size<=cap*i.size:=Nat.mul_le_mul_right _ hroom;rw[Nat.add_mul]at h2;omega
   have hr:=Ee (P:=P) w t ty e i ht hi g off n cap cur hg a m c news hl hnews h1 hroom hfit;refine⟨_,_,hr,⟨hlen,.inr ⟨g,off,cap,_,rfl,hbg,setRow_heap w g cur _ e _ hg,hroom,hcm,?_,?_⟩⟩,⟨rfl,rfl,rfl,by simp,fun k _ hk=>setRow_other w g k _ (fun e=>hk (by simp[Value.ownBlock,e]))⟩,.inl rfl⟩
   ·simp only[List.size_toArray,aaO,List.length_take,List.length_drop,Array.length_toList]
    omega
   ·rw[<- htake,Nat.add_mul,<- hl]
    have hoff:off<=(cur.toList.take (off+n*i.size)).length:=by simp;omega
    rw[List.append_assoc,List.drop_append_of_le_length hoff,List.drop_take,Nat.add_sub_cancel_left];have hk:(List.take (n*i.size) (List.drop off cur.toList)).length=n*i.size:=by simp;omega
    rw[<- List.append_assoc];exact List.take_left' (by rw[aaO,hk])
  ·have holds:∀j u,xs[j]? =some u->w.cell? ((⟨g,off,none⟩:Addr).add j)=some u:=by
    intro j u hu;have hjn:j<n*i.size:=by rw[<- hown.1];exact(aaJ.1 hu).1
    have hn0:0<n:=Nat.pos_of_ne_zero (by rintro rfl;simp at hjn);obtain⟨g',off',cap',hv',_,_,_,_,hc⟩:=hown.form hn0;cases hv'
    rw[Addr.add_lit];exact hc j u hu
   have hr:=run_append_grow (P:=P) w t ty e i z ht hi hz ⟨g,off,none⟩ n cap xs hown.1 holds a m c news hl hnews (by omega) (by omega) (growslice_fits (by omega) hbytes);have hgr:=grown cap (by omega) (Value.ownBlock (.slice (some ⟨g,off,none⟩) n cap));exact⟨_,_,hr,hgr.1,hgr.2,.inr rfl⟩
theorem jY{o:Oper}{a:Act}{K:Act->World->Prop}{Q:Exit->Act->World->Prop}(s x:Operand)(t:TypeId)
 (ho:o.op= .call { callee:=.builtin .append,args:=#[s,x],argTypes:=#[t,t] })
 (base:Nat) (e:TypeId) (i:TypeInfo) (z:Value) (size bytes:Nat) (ht:P.underlying t=some (.slice e)) (hi:P.info? e=some i) (hz:i.zero=some z)
 (hsize:i.size=size) (hby:i.bytes=bytes) (hzs:z.cells.size=size)
 (v:Value) (n:Nat) (xs:List Value) (hs:a.eval s=v) (hown:aL w base e size v n xs)
 (ad:Addr) (m c:Nat) (news:List Value) (hx:a.eval x= .slice (some ad) m c) (hl:news.length=m*size) (hnews:∀j u,news[j]? =some u->w.cell? (ad.add j)=some u) (h1:∀u∈news,u.oneCell'=true)
 (h63:n+m<=maxLen) (hbytes:(n+m)*bytes<=140737488355328) (hbase:base<=w.heap.size)
 (h:∀v' w',aL w' base e size v' (n+m) (xs++news)->w.grownBy w' v.ownBlock->(v'.ownBlock=v.ownBlock\/v'.ownBlock=some w.heap.size)->K (a.put o.dst v') w'):o.wp P a w K Q:=by
 obtain⟨v',w',hr,h2,h3,h4⟩:=OG (P:=P) w base t o.type e i z size bytes ht hi hz hsize hby hzs v n xs hown ad m c news hl hnews h1 h63 hbytes hbase;unfold Oper.wp execOp;simp only[ho,resolve,invoke,builtin,Sem.run_bind,Sem.run_pure,Result.andThen_ok,List.map_toArray,List.map_cons,List.map_nil,hs,hx,hr];exact h v' w' h2 h3 h4
theorem dm{ops:Array Oper}{rest:List Oper}{o:Oper}{a:Act}{Q:Exit->Act->World->Prop}(hgd:o.guard=none)(s x:Operand)(t:TypeId)
 (ho:o.op= .call { callee:=.builtin .append,args:=#[s,x],argTypes:=#[t,t] })
 (base:Nat) (e:TypeId) (i:TypeInfo) (z:Value) (size bytes:Nat) (ht:P.underlying t=some (.slice e)) (hi:P.info? e=some i) (hz:i.zero=some z)
 (hsize:i.size=size) (hby:i.bytes=bytes) (hzs:z.cells.size=size)
 (v:Value) (n:Nat) (xs:List Value) (hs:a.eval s=v) (hown:aL w base e size v n xs)
 (ad:Addr) (m c:Nat) (news:List Value) (hx:a.eval x= .slice (some ad) m c) (hl:news.length=m*size) (hnews:∀j u,news[j]? =some u->w.cell? (ad.add j)=some u) (h1:∀u∈news,u.oneCell'=true)
 (h63:n+m<=maxLen) (hbytes:(n+m)*bytes<=140737488355328) (hbase:base<=w.heap.size)
 (h:∀v' w',aL w' base e size v' (n+m) (xs++news)->w.grownBy w' v.ownBlock->(v'.ownBlock=v.ownBlock\/v'.ownBlock=some w.heap.size)->wpList P ops Q rest (a.put o.dst v') w'):wpList P ops Q (o::rest) a w:=
 wpList_plain hgd fun _ hK=>jY w s x t ho base e i z size bytes ht hi hz hsize hby hzs v n xs hs hown ad m c news hx hl hnews h1 h63 hbytes hbase fun v' w' h2 h3 h4=>hK _ _ (h v' w' h2 h3 h4)
end
structure az (S:Nat->Prop) (w w':World):Prop where
 os:w'.os=w.os
 tape:w'.tape=w.tape
 output:w'.output=w.output
 size:w.heap.size<=w'.heap.size
 block:∀k,k<w.heap.size->¬S k->w'.heap[k]? =w.heap[k]?
section
variable {S:Nat->Prop}{a w w':World}
theorem az.refl(S:Nat->Prop)(w:World):az S w w:=⟨rfl,rfl,rfl,aaD _,fun _ _ _=>rfl⟩
theorem az.trans{b c:World}(h:az S a b)(k:az S b c):az S a c:=
 ⟨k.os.trans h.os,k.tape.trans h.tape,k.output.trans h.output,aaE h.size k.size,fun i hi hs=>(k.block i (Nat.lt_of_lt_of_le hi h.size) hs).trans (h.block i hi hs)⟩
theorem az.drew(h:az S a w):az S a w.drew:=⟨h.os,h.tape,h.output,h.size,h.block⟩
theorem az.alloc(h:az S a w)(o:Obj):az S a (w.alloc o):=
 ⟨h.os,h.tape,h.output,aaE h.size (by simp),fun i hi hs=>(Below.heap_alloc w o i (Nat.lt_of_lt_of_le hi h.size)).trans (h.block i hi hs)⟩
theorem az.setCell(h:az S a w){p:Addr}(hp:S p.block\/a.heap.size<=p.block)(u:Value):az S a (w.setCell p u):=
 ⟨h.os,h.tape,h.output,by simpa [World.setCell] using h.size,fun i hi hs=>(Below.heap_setCell w p u i (by
  rintro rfl;rcases hp with hp|hp
  ·exact hs hp
  ·omega)).trans (h.block i hi hs)⟩
theorem az.grown{row:Option Nat}(h:az S a w)(hg:w.grownBy w' row)(hr:∀k,row=some k->S k\/a.heap.size<=k):az S a w':=
 ⟨hg.os.trans h.os,hg.tape.trans h.tape,hg.output.trans h.output,aaE h.size hg.size,fun i hi hs=>(hg.block i (Nat.lt_of_lt_of_le hi h.size) (fun e=>by
  rcases hr i e.symm with h1|h1
  ·exact hs h1
  ·omega)).trans (h.block i hi hs)⟩
theorem az.below(h:az S a w)(hb:Below w.heap.size w w'):az S a w':=
 ⟨hb.os.trans h.os,hb.tape.trans h.tape,hb.output.trans h.output,aaE h.size hb.size,fun i hi hs=>(hb.block i (Nat.lt_of_lt_of_le hi h.size)).trans (h.block i hi hs)⟩
theorem az.toBelow{B:Nat}(h:az S a w)(hB:B<=a.heap.size)(hS:∀k,S k->B<=k):Below B a w:=
 ⟨h.os,h.tape,h.output,h.size,fun i hi=>h.block i (by omega) (fun hs=>by have:=hS i hs;omega)⟩
theorem az.mono{S':Nat->Prop}(h:az S a w)(hS:∀k,S k->S' k):az S' a w:=⟨h.os,h.tape,h.output,h.size,fun i hi hs=>h.block i hi (fun h1=>hs (hS i h1))⟩
theorem ai.since{g:Nat}{t:TypeId}{cs:Array Value}(h:ai w g t cs)(hs:az S w w')(hg:¬S g):ai w' g t cs:=h.keep (hs.block g h.lt hg)
theorem aL.since{base:Nat}{e:TypeId}{size:Nat}{v:Value}{n:Nat}{xs:List Value}(h:aL w base e size v n xs)(hs:az S w w')(hS:∀g,v.ownBlock=some g->¬S g):aL w' base e size v n xs:=
 h.of_block fun g hv=>hs.block g (h.lt g hv).2 (hS g hv)
end
theorem aL.apart{w:World}{base base':Nat}{e e':TypeId}{size size':Nat}{v v':Value}{n n':Nat}{xs xs':List Value}(h:aL w base e size v n xs)(h':aL w base' e' size' v' n' xs')(hne:e≠e'):
 ∀g,v.ownBlock=some g->v'.ownBlock≠some g:=by
 intro g hv hv';rcases h.2 with⟨rfl,_⟩| ⟨g1,EB,Jd,BC,rfl,_,hg1,_⟩
 ·cases hv
 ·rcases h'.2 with⟨rfl,_⟩| ⟨g2,off2,cap2,cur2,rfl,_,hg2,_⟩
  ·cases hv'
  ·simp[Value.ownBlock]at hv hv'
   subst hv;subst hv';rw[hg1]at hg2;simp at hg2;exact hne hg2.2
theorem az.step{S S':Nat->Prop}{a b c:World}(h:az S a b)(k:az S' b c)(hS:∀g,S' g->S g\/a.heap.size<=g):az S a c:=
 ⟨k.os.trans h.os,k.tape.trans h.tape,k.output.trans h.output,aaE h.size k.size,fun i hi hs=>(k.block i (Nat.lt_of_lt_of_le hi h.size) (fun h1=>by
  rcases hS i h1 with h2|h2
  ·exact hs h2
  ·omega)).trans (h.block i hi hs)⟩
theorem CQ(w:World)(g:Nat)(u:Value)(h:w.cell? ⟨g,0,none⟩=some u):∀j v,[u][j]? =some v->w.cell? ((⟨g,0,none⟩:Addr).add j)=some v:=by
 intro j v hj
 cases j with
 | zero=>simp at hj;subst hj;exact h
 | succ j=>simp at hj
theorem af(w:World)(o:Obj):Below w.heap.size w (w.alloc o):=(Below.refl _ _).alloc (aaD _) _
theorem bW.later{α:Type}{size:Nat}{cells:α->List Value}{w w':World}{A:Option Addr}{l:List α}(h:bW size cells w w.heap.size A l)(hb:Below w.heap.size w w'):bW size cells w' w'.heap.size A l:=(h.below hb (aaD _)).mono hb.size
theorem aL.eu{w:World}{base:Nat}{e:TypeId}{size:Nat}{v:Value}{n:Nat}{xs:List Value}(h:aL w base e size v n xs){g:Nat}{t:TypeId}{cs:Array Value}(hb:ai w g t cs)(hne:e≠t):v.ownBlock≠some g:=by
 intro hv;rcases h.2 with⟨rfl,_⟩| ⟨g1,EB,Jd,BC,rfl,_,hg1,_⟩
 ·cases hv
 ·have e1:g1=g:=by simpa [Value.ownBlock] using hv
  subst e1;unfold ai at hb;rw[hb]at hg1;simp at hg1;exact hne hg1.2.symm
section
variable {P:Program}(w:World)
end
section
variable {P:Program}(w:World)
end
theorem bH{a b:Bool}(h:a=b):Ending.returned (.bool a)= .returned (.bool b):=by rw[h]
theorem tT(c:Nat)(w:World):Calls Tryz.prog 226 #[.int .u8 (c:Int)] w fun e w'=>e= .returned (.bool (qW c))/\w=w':=by
 by_cases h1:c=9
 ·subst h1
  go_enter Tryz.func226,Tryz.ntmps226
  go_wp2
  go_ret
  exact⟨rfl,rfl⟩
 by_cases h2:c=10
 ·subst h2
  go_enter Tryz.func226,Tryz.ntmps226
  go_wp2
  go_ret
  exact⟨rfl,rfl⟩
 by_cases h3:c=13
 ·subst h3
  go_enter Tryz.func226,Tryz.ntmps226
  go_wp2
  go_ret
  exact⟨rfl,rfl⟩
 have e1:((c:Int)==9)=false:=by simp;omega
 have e2:((c:Int)==10)=false:=by simp;omega
 have e3:((c:Int)==13)=false:=by simp;omega
 have e4:decide (c=9)=false:=by simp[h1]
 have e5:decide (c=10)=false:=by simp[h2]
 have e6:decide (c=13)=false:=by simp[h3]
 clear h1 h2 h3;by_cases h4:c=32
 ·subst h4
  go_enter Tryz.func226,Tryz.ntmps226
  go_wp2
  go_ret
  exact⟨rfl,rfl⟩
 ·have e7:((c:Int)==32)=false:=by simp;omega
  have e8:decide (c=32)=false:=by simp[h4]
  have hr:qW c=false:=by simp[qW,e4,e5,e6,e8]
  have HR:=kH hr;clear e4 e5 e6 e8 h4 hr;go_enter Tryz.func226,Tryz.ntmps226
  go_wp2
  go_ret
  exact⟨bH HR.out.symm,rfl⟩
theorem l9(c:Nat)(w:World):Calls Tryz.prog 227 #[.int .u8 (c:Int)] w fun e w'=>e= .returned (.bool (kJ c))/\w=w':=by
 by_cases h1:97<=c
 ·have h1':(97:Int)<=(c:Int):=by omega
  by_cases h2:c<=122
  ·have h2':(c:Int)<=122:=by omega
   go_enter Tryz.func227,Tryz.ntmps227
   go_wp2
   go_ret
   exact⟨bH (by simp[kJ,h1,h2]),rfl⟩
  ·have h2':¬(c:Int)<=122:=by omega
   go_enter Tryz.func227,Tryz.ntmps227
   go_wp2
   go_ret
   exact⟨bH (by simp[kJ,h2]),rfl⟩
 ·have h1':¬(97:Int)<=(c:Int):=by omega
  go_enter Tryz.func227,Tryz.ntmps227
  go_wp2
  go_ret
  exact⟨bH (by simp[kJ,h1]),rfl⟩
theorem mF(c:Nat)(w:World):Calls Tryz.prog 184 #[.int .u8 (c:Int)] w fun e w'=>e= .returned (.bool (fB c))/\w=w':=by
 by_cases h1:48<=c
 ·have h1':(48:Int)<=(c:Int):=by omega
  by_cases h2:c<=57
  ·have h2':(c:Int)<=57:=by omega
   go_enter Tryz.func184,Tryz.ntmps184
   go_wp2
   go_ret
   exact⟨bH (by simp[fB,h1,h2]),rfl⟩
  ·have h2':¬(c:Int)<=57:=by omega
   go_enter Tryz.func184,Tryz.ntmps184
   go_wp2
   go_ret
   exact⟨bH (by simp[fB,h2]),rfl⟩
 ·have h1':¬(48:Int)<=(c:Int):=by omega
  go_enter Tryz.func184,Tryz.ntmps184
  go_wp2
  go_ret
  exact⟨bH (by simp[fB,h1]),rfl⟩
def nE(l:List ByteArray)(x:ByteArray):Bool:=l.any fun b=>b.toList==x.toList
def eZ(b:ByteArray):List Value:=[.string b]
theorem U0(l:aP):(aU l).toList=l:=by simp[aU,ByteArray.toList_eq]
theorem F5(ws:List aP)(x:ByteArray):nE (ws.map aU) x=rV ws x.data.toList:=by
 unfold nE rV;rw[List.any_map];congr 1
 funext b
 simp only[Function.comp];rw[U0,ByteArray.toList_eq,Bool.eq_iff_iff];simp
theorem zx(A1:Option Addr)(n1 c1:Nat)(l:List ByteArray)(x:ByteArray)(w:World)(h1:bW 1 eZ w w.heap.size A1 l)(hl1:l.length=n1)(hn:n1<=1000000):
 Calls Tryz.prog 88 #[.slice A1 n1 c1,.string x] w fun e w'=>e= .returned (.bool (nE l x))/\Below w.heap.size w w':=by
 have H1:=kH h1;have rG:=kH hl1;clear h1 hl1;go_enter Tryz.func88,Tryz.ntmps88
 go_wp2_with fail
 go_loopg [5] n1 (fun gk s wr=> ∃k:Nat,k+gk=n1/\s= .int .i64 k/\Below w.heap.size w wr/\nE (l.take k) x=false)
 case atStart=>exact⟨0,by omega,rfl,Below.refl _ _,rfl⟩
 case round=>
  obtain⟨k,hk,rfl,hB,ht⟩:=hrel;have hk':k<=n1:=by omega
  have HK:=kH hk;have HT:=kH ht;clear hk ht;by_cases hlt:k<n1
  ·have e1:l[k]? =some (l[k]'(by rw[rG.out];exact hlt)):=aaH _
   generalize l[k]'(by rw[rG.out];exact hlt)=y at e1
   obtain⟨b1,o1,hA1,hb1,hc1⟩:=(H1.out.below hB (aaD _)) k _ e1;subst hA1;have hx:wr.cell? ⟨b1,o1+k,none⟩=some (.string y):=by simpa using hc1 0 _ rfl
   have hkn:(k:Int)<(n1:Int):=by omega
   have hsn:nE (l.take (k+1)) x=(y.toList==x.toList):=by
    have h0:=HT.out;unfold nE at h0⊢;rw[List.take_add_one,e1,List.any_append,h0];simp
   have E1:=kH e1;have K9:=kH hsn;clear hc1 e1 hsn;obtain⟨q,hq⟩:∃q,(y.toList==x.toList)=q:=⟨_,rfl⟩
   have HQ:=kH hq;cases q
   ·go_wp2_with fail
    go_roundg (gk - 1)
    case measure=>have:=HK.out;omega
    case rel=>exact⟨k+1,by have:=HK.out;omega,by go_num,by(repeat (first|exact Below.refl _ _|assumption|refine Below.trans ?_ (Below.mono (by assumption) (by first|omega|(simp;done)|(simp;omega)))|refine Below.alloc ?_ (by first|omega|(simp;done)|(simp;omega)) _|refine Below.setCell ?_ (by first|omega|(simp;done)|(simp;omega)) _|refine Below.drew ?_|refine aY ?_ _)),by rw[K9.out];exact HQ.out⟩
   ·have hres:nE l x=true:=by
     unfold nE;rw[List.any_eq_true];exact⟨y,aaP E1.out,HQ.out⟩
    have aM:=kH hres;clear hres;go_wp2_with fail
    go_ret
    rw[aM.out];exact⟨rfl,by(repeat (first|exact Below.refl _ _|assumption|refine Below.trans ?_ (Below.mono (by assumption) (by first|omega|(simp;done)|(simp;omega)))|refine Below.alloc ?_ (by first|omega|(simp;done)|(simp;omega)) _|refine Below.setCell ?_ (by first|omega|(simp;done)|(simp;omega)) _|refine Below.drew ?_|refine aY ?_ _))⟩
  ·have hres:nE l x=false:=by
    have h:=HT.out;rw[List.take_of_length_le (by rw[rG.out];omega)]at h;exact h
   have aM:=kH hres;clear hres;go_wp2_with fail
   go_ret
   rw[aM.out];exact⟨rfl,by(repeat (first|exact Below.refl _ _|assumption|refine Below.trans ?_ (Below.mono (by assumption) (by first|omega|(simp;done)|(simp;omega)))|refine Below.alloc ?_ (by first|omega|(simp;done)|(simp;omega)) _|refine Below.setCell ?_ (by first|omega|(simp;done)|(simp;omega)) _|refine Below.drew ?_|refine aY ?_ _))⟩
theorem xA(w:World)(ty:TypeId)(ws:List aP):bW 1 eZ (w.alloc (.cells (ws.map fun b=>Value.string (aU b)).toArray ty)) (w.alloc (.cells (ws.map fun b=>Value.string (aU b)).toArray ty)).heap.size (some ⟨w.heap.size,0,none⟩) (ws.map aU):=by
 intro k c hk;refine⟨w.heap.size,0,rfl,by simp,fun j v hj=>?_⟩;have hb:=ai.new w ty (ws.map fun b=>Value.string (aU b)).toArray;rw[hb.cell]
 cases j with
 | zero=>
  simp[eZ]at hj;subst hj;simp at hk⊢;obtain⟨a,ha,rfl⟩:=hk;exact⟨a,ha,rfl⟩
 | succ j=>simp[eZ]at hj
theorem Ci(s:ByteArray)(a b:Nat):(s.extract a b).data.toList=qN s.data.toList a b:=by
 rw[Lib.extract_data];unfold qN;simp
theorem Sb(x:ByteArray)(w:World):Calls Tryz.prog 228 #[.string x] w fun e w'=>e= .returned (.bool (Ka x.data.toList))/\Below w.heap.size w w':=by
 go_enter Tryz.func228,Tryz.ntmps228
 go_wp2_with fail
 refine(zx (some ⟨w.heap.size,0,none⟩) 18 18 (Pp.map aU) x _ (xA w 9 Pp) rfl (by omega)).mono ?_;rintro e w1 ⟨rfl,hb1⟩;go_wp2_with fail
 go_ret
 refine⟨bH (by rw[F5];rfl),?_⟩;have h0:=af w (.cells (Pp.map fun b=>Value.string (aU b)).toArray 9);exact h0.trans (hb1.mono (by simp))
theorem pK(s:ByteArray)(i:Nat)(h:i<s.size):(s[i]'h).toNat=bz s.data.toList i:=by
 unfold bz;rw[List.getD_eq_getElem?_getD,aaH (by simpa using h)];rfl
theorem bS(s:ByteArray):s.data.toList.length=s.size:=by simp
theorem JF(s:ByteArray)(a:Nat)(w:World)(ha:a<s.size)(hs:s.size<=4096):
 Calls Tryz.prog 229 #[.string s,.int .i64 (a:Int)] w fun e w'=>e= .returned (.int .i64 (xy s.data.toList a:Int))/\Below w.heap.size w w':=by
 have h1i:(a:Int)+1<=s.size:=by omega
 have e1:nE (Gm.map aU) (s.extract a (a+1))=rV Gm (qN s.data.toList a (a+1)):=by rw[F5,Ci]
 have e2:nE (Ou.map aU) (s.extract a (a+2))=rV Ou (qN s.data.toList a (a+2)):=by rw[F5,Ci]
 obtain⟨b1,hb1⟩:∃x,rV Gm (qN s.data.toList a (a+1))=x:=⟨_,rfl⟩
 obtain⟨b2,hb2⟩:∃x,rV Ou (qN s.data.toList a (a+2))=x:=⟨_,rfl⟩
 rw[hb1]at e1;rw[hb2]at e2
 have hres:(xy s.data.toList a:Int)=if decide (a+2<=s.size)&&b2 then 2 else if b1 then 1 else 0:=by
  unfold xy;rw[hb1,hb2,bS];split<;>(try split)<;>rfl
 rw[hres];have E1:=kH e1;have E2:=kH e2;clear e1 e2 hb1 hb2 hres;by_cases h2:a+2<=s.size
 ·have h2i:(a:Int)+2<=s.size:=by omega
  have hd:decide (a+2<=s.size)=true:=decide_eq_true h2;rw[hd];clear hd;go_enter Tryz.func229,Tryz.ntmps229
  go_wp2_with fail
  refine(zx (some ⟨w.heap.size,0,none⟩) 4 4 (Ou.map aU) _ _ (xA w 9 Ou) rfl (by omega)).mono ?_;rintro e w1 ⟨rfl,hb1⟩;rw[E2.out];have h0:=af w (.cells (Ou.map fun b=>Value.string (aU b)).toArray 9);have hw1:Below w.heap.size w w1:=h0.trans (hb1.mono (by simp));clear h0 hb1;cases b2
  ·go_wp2_with fail
   refine(zx (some ⟨w1.heap.size,0,none⟩) 18 18 (Gm.map aU) _ _ (xA w1 9 Gm) rfl (by omega)).mono ?_;rintro e w2 ⟨rfl,hb2⟩;rw[E1.out];have h0:=af w1 (.cells (Gm.map fun b=>Value.string (aU b)).toArray 9);have hw2:Below w.heap.size w w2:=hw1.trans ((h0.trans (hb2.mono (by simp))).mono hw1.size);clear h0 hb2;cases b1
   ·go_wp2_with fail
    go_ret
    exact⟨rfl,hw2⟩
   ·go_wp2_with fail
    go_ret
    exact⟨rfl,hw2⟩
  ·go_wp2_with fail
   go_ret
   exact⟨rfl,hw1⟩
 ·have h2i:¬(a:Int)+2<=s.size:=by omega
  have hd:decide (a+2<=s.size)=false:=decide_eq_false h2;rw[hd];clear hd;go_enter Tryz.func229,Tryz.ntmps229
  go_wp2_with fail
  refine(zx (some ⟨w.heap.size,0,none⟩) 18 18 (Gm.map aU) _ _ (xA w 9 Gm) rfl (by omega)).mono ?_;rintro e w2 ⟨rfl,hb2⟩;rw[E1.out];have h0:=af w (.cells (Gm.map fun b=>Value.string (aU b)).toArray 9);have hw2:Below w.heap.size w w2:=h0.trans (hb2.mono (by simp));clear h0 hb2;cases b1
  ·go_wp2_with fail
   go_ret
   exact⟨rfl,hw2⟩
  ·go_wp2_with fail
   go_ret
   exact⟨rfl,hw2⟩
theorem KU(s:ByteArray)(a:Nat)(w:World)(ha:a<s.size)(hs:s.size<=4096):
 Calls Tryz.prog 230 #[.string s,.int .i64 (a:Int)] w fun e w'=>e= .returned (.bool (uq s.data.toList a))/\Below w.heap.size w w':=by
 have hc:=pK s a ha;have hai:(a:Int)<s.size:=by omega
 obtain⟨b1,hb1⟩:∃x,kJ (bz s.data.toList a)=x:=⟨_,rfl⟩
 obtain⟨b2,hb2⟩:∃x,fB (bz s.data.toList a)=x:=⟨_,rfl⟩
 have hres:uq s.data.toList a=(b1 || b2 || decide (0<xy s.data.toList a)):=by unfold uq;rw[hb1,hb2]
 rw[hres];have HB1:=kH hb1;have HB2:=kH hb2;clear hb1 hb2 hres;cases b1
 ·cases b2
  ·go_enter Tryz.func230,Tryz.ntmps230
   go_wp2_with fail
   refine(l9 _ _).mono ?_;rintro e w' ⟨rfl,rfl⟩;rw[HB1.out];go_wp2_with fail
   refine(mF _ _).mono ?_;rintro e w' ⟨rfl,rfl⟩;rw[HB2.out];go_wp2_with fail
   refine(JF s a _ ha hs).mono ?_;rintro e w' ⟨rfl,hb⟩;go_wp2_with fail
   go_ret
   exact⟨bH (by simp),hb⟩
  ·go_enter Tryz.func230,Tryz.ntmps230
   go_wp2_with fail
   refine(l9 _ _).mono ?_;rintro e w' ⟨rfl,rfl⟩;rw[HB1.out];go_wp2_with fail
   refine(mF _ _).mono ?_;rintro e w' ⟨rfl,rfl⟩;rw[HB2.out];go_wp2_with fail
   go_ret
   exact⟨rfl,Below.refl _ _⟩
 ·go_enter Tryz.func230,Tryz.ntmps230
  go_wp2_with fail
  refine(l9 _ _).mono ?_;rintro e w' ⟨rfl,rfl⟩;rw[HB1.out];go_wp2_with fail
  go_ret
  exact⟨rfl,Below.refl _ _⟩
theorem YR(s:ByteArray)(a:Nat)(w:World)(ha:a<=s.size)(hs:s.size<=4096):
 Calls Tryz.prog 179 #[.string s,.int .i64 (a:Int)] w fun e w'=>e= .returned (.int .i64 (j6 s.data.toList (s.size+1) a:Int))/\w=w':=by
 go_enter Tryz.func179,Tryz.ntmps179
 go_wp2_with fail
 go_loopg [1] (s.size - a) (fun gk s1 wr=> ∃k f:Nat,k+gk=s.size/\s1= .int .i64 k/\j6 s.data.toList (s.size+1) a=j6 s.data.toList f k/\s.size<f+k/\w=wr)
 case atStart=>exact⟨a,s.size+1,by omega,rfl,rfl,by omega,rfl⟩
 case round=>
  obtain⟨k,f,hk,rfl,hsk,hf,rfl⟩:=hrel;have hk':k<=s.size:=by omega
  have HK:=kH hk;have TA:=kH hsk;clear hk hsk;obtain⟨f,rfl⟩:∃g,f=g+1:=⟨f - 1,by omega⟩
  by_cases hlt:k<s.size
  ·have hc:=pK s k hlt
   have hki:(k:Int)<s.size:=by omega
   obtain⟨c,hcb⟩:∃c,bz s.data.toList k=c:=⟨_,rfl⟩
   rw[hcb]at hc;obtain⟨bl,hbl⟩:∃x,qW c=x:=⟨_,rfl⟩
   have Ec:=kH hcb;have yE:=kH hbl;clear hcb hbl;by_cases uD:c=35
   ·subst uD
    have hb0:bl=false:=by rw[<- yE.out];rfl
    subst hb0
    have hsn:j6 s.data.toList (f+1) k=j6 s.data.toList f (gY (fun i=> !decide (bz s.data.toList i=10)) s.data.toList s.data.toList.length k):=by
     rw[j6,Ec.out,bS,if_pos (by simp[hlt]),if_pos rfl]
    have K9:=kH hsn;clear hsn;go_wp2_with fail
    refine(tT 35 _).mono ?_;rintro e w' ⟨rfl,rfl⟩;go_wp2_with fail
    obtain⟨wo,rfl⟩:∃wo:World,wo=w:=⟨_,rfl⟩
    obtain⟨gp,rfl⟩:∃gp:Nat,gp=gk:=⟨_,rfl⟩
    go_loopg [1] (s.size - k) (fun gk s1 wr=> ∃j:Nat,j+gk=s.size/\k<=j/\s1= .int .i64 j/\(∀i,k<=i->i<j->(fun i=> !decide (bz s.data.toList i=10)) i=true)/\wo=wr)
    case atStart=>exact⟨k,by omega,aaD _,rfl,fun i h1 h2=>by omega,rfl⟩
    case round=>
     obtain⟨j,hj,hkj,rfl,hall,rfl⟩:=hrel;have hj':j<=s.size:=by omega
     have HJ:=kH hj;have iB:=kH hall;clear hj hall
     have fin:(j<s.size->bz s.data.toList j=10)->j6 s.data.toList (s.size+1) a=j6 s.data.toList f j:=fun h=>by
      rw[TA.out,K9.out,FU _ k j hkj (by rw[bS];exact hj') iB.out (fun hl=>by rw[bS]at hl;simp[h hl]) (by omega)]
     by_cases hlt2:j<s.size
     ·have hc2:=pK s j hlt2
      have hji:(j:Int)<s.size:=by omega
      obtain⟨c2,ZA⟩:∃c,bz s.data.toList j=c:=⟨_,rfl⟩
      rw[ZA]at hc2;have aaw:=kH ZA;clear ZA;by_cases h10:c2=10
      ·have hfin:=fin (fun _=>by rw[aaw.out];exact h10)
       have hkj2:k<j:=by
        rcases Nat.lt_or_ge k j with h|h
        ·exact h
        ·have:j=k:=by omega
         subst this;have:=Ec.out.symm.trans aaw.out;omega
       have iP:=kH hfin;subst h10;clear hfin fin;go_wp2_with fail
       go_roundg (s.size - j)
       case measure=>have:=HK.out;omega
       case rel=>exact⟨j,f,by omega,rfl,iP.out,by omega,rfl⟩
      ·have hne:((c2:Int) !=10)=true:=by simp;omega
       have jb:Hid (bz s.data.toList j≠10):=kH (by rw[aaw.out];exact h10);clear h10 fin;go_wp2_with fail
       go_roundg (gk - 1)
       case measure=>have:=HJ.out;omega
       case rel=>
        refine⟨j+1,by have:=HJ.out;omega,by omega,by go_num,fun i h1 h2=>?_,rfl⟩;by_cases hij:i=j
        ·subst hij;simpa using jb.out
        ·exact iB.out i h1 (by omega)
     ·have hjs:j=s.size:=by omega
      have hfin:=fin (fun h=>by omega);have iP:=kH hfin;clear hfin fin;subst hjs;go_wp2_with fail
      go_roundg 0
      case measure=>have:=HK.out;omega
      case rel=>exact⟨s.size,f,by omega,rfl,iP.out,by omega,rfl⟩
   ·have h35i:((c:Int)==35)=false:=by simp;omega
    cases bl
    ·have hsn:j6 s.data.toList (f+1) k=k:=by
      rw[j6,Ec.out,bS,if_neg];rw[yE.out];simp[uD]
     have hres:=TA.out.trans hsn;have aM:=kH hres;clear hres hsn uD;go_wp2_with fail
     refine(tT c _).mono ?_;rintro e w' ⟨rfl,rfl⟩;rw[yE.out];go_wp2_with fail
     go_ret
     exact⟨Sv (by rw[aM.out]),rfl⟩
    ·have hsn:j6 s.data.toList (f+1) k=j6 s.data.toList f (k+1):=by
      rw[j6,Ec.out,bS,if_pos,if_neg uD];rw[yE.out];simp[hlt]
     have K9:=kH hsn;clear hsn uD;go_wp2_with fail
     refine(tT c _).mono ?_;rintro e w' ⟨rfl,rfl⟩;rw[yE.out];go_wp2_with fail
     go_roundg (gk - 1)
     case measure=>have:=HK.out;omega
     case rel=>exact⟨k+1,f,by have:=HK.out;omega,by go_num,TA.out.trans K9.out,by omega,rfl⟩
  ·have hks:k=s.size:=by omega
   have hsn:j6 s.data.toList (f+1) k=k:=by
    rw[j6,bS,if_neg (by simp[hlt])]
   have hres:=TA.out.trans hsn;have aM:=kH hres;clear hres hsn;go_wp2_with fail
   go_ret
   exact⟨Sv (by rw[aM.out]),rfl⟩
end Go.Proofs.YtoepemlnlpamlaaGreat
