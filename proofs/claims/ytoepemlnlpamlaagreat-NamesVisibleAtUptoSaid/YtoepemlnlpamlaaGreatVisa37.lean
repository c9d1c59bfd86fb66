/- The law NamesVisibleAt holds where what it reads is of bulk at most 1048576: it returns true, and its arguments read as before. Part 37: RwP. -/
import Derived.Test.YtoepemlnlpamlaaGreatVisa35
set_option maxRecDepth 100000
set_option maxHeartbeats 4000000
namespace Go.Proofs.YtoepemlnlpamlaaGreat
structure uQ (a b:RW) (m:Nat):Prop where
 ds1:a.ds.length<=b.ds.length
 Pe:b.ds.length<=a.ds.length+m
 li:b.list.length<=a.list.length+m
 us:b.uses.length=a.uses.length
theorem uQ.refl(a:RW):uQ a a 0:=⟨aab _,aab _,aab _,rfl⟩
theorem uQ.trans{a b c:RW}{m n k:Nat}(h:uQ a b m)(g:uQ b c n)(A:m+n<=k):uQ a c k:=
 ⟨aac h.ds1 g.ds1,by have:=h.Pe;have:=g.Pe;omega,by have:=h.li;have:=g.li;omega,g.us.trans h.us⟩
def pq(s:List Nat)(q:RW):Prop:=s.length<=q.ds.length/\∀i∈s,i<q.ds.length
theorem pq.mono{s:List Nat}{a b:RW}{m:Nat}(h:pq s a)(k:uQ a b m):pq s b:=⟨aac h.1 k.ds1,fun i A=>Nat.lt_of_lt_of_le (h.2 i A) k.ds1⟩
theorem EC(q:RW)(c:Int)(t:ae):uQ q (tF q c t) 1:=⟨aab _,Nat.le_succ _,by simp[tF],rfl⟩
theorem VE(q:RW)(c:Int)(t:ae)(o:Int):uQ q (tQ q c t o) 1:=⟨by simp[tQ],by simp[tQ],Nat.le_succ _,by simp[tQ]⟩
theorem UU(q:RW)(i:Nat)(v:Int):uQ q { q with uses:=q.uses.set i v } 1:=⟨aab _,Nat.le_succ _,Nat.le_succ _,by simp⟩
theorem use_stp(q:RW)(t:ae)(o:Option Int):uQ q (sS q t o) 1:=by
 cases o with
 | none=>exact EC _ _ _
 | some n=>exact UU _ _ _
theorem var_stp(G:List Dc)(q:RW)(s:List Nat)(t:ae)(c o:Int):uQ q (fQ G q s t c o).1 1:=by
 unfold fQ;split
 ·exact EC _ _ _
 ·exact VE _ _ _ _
theorem Yj(G:List Dc)(q:RW)(t:ae)(c o:Int):uQ q (fJ G q t c o) 1:=by
 unfold fJ;split
 ·exact VE _ _ _ _
 ·exact EC _ _ _
theorem name_stp(q:RW)(s:List Nat)(t:ae):uQ q (y5 q s t) 1:=by
 unfold y5;split
 ·exact UU _ _ _
 ·exact EC _ _ _
theorem use_num(q:RW)(t:ae)(o:Option Int):(sS q t o).num=q.num:=by cases o<;>rfl
theorem var_num(G:List Dc)(q:RW)(s:List Nat)(t:ae)(c o:Int):(fQ G q s t c o).1.num=q.num:=by unfold fQ;split<;>rfl
theorem Yk(G:List Dc)(q:RW)(t:ae)(c o:Int):(fJ G q t c o).num=q.num:=by unfold fJ;split<;>rfl
theorem name_num(q:RW)(s:List Nat)(t:ae):(y5 q s t).num=q.num:=by unfold y5;split<;>rfl
theorem ES(G:List Dc)(q:RW)(s:List Nat)(t:ae)(o:Int):uQ q (nM G q s t o) 1/\(nM G q s t o).num=q.num:=by
 unfold nM;repeat (first|exact⟨Yj _ _ _ _ _,Yk _ _ _ _ _⟩|exact⟨name_stp _ _ _,name_num _ _ _⟩|exact⟨use_stp _ _ _,use_num _ _ _⟩|exact⟨var_stp _ _ _ _ _ _,var_num _ _ _ _ _ _⟩|exact⟨(uQ.refl _).trans (uQ.refl _) (Nat.le_succ _),rfl⟩|split)
theorem Rx(mk:Int)(q:RW)(s:List Nat):uQ q (dI mk q s) 0:=by
 unfold dI;split<;>exact⟨aab _,aab _,aab _,rfl⟩
theorem LF{G:List Dc}{q:RW}{s:List Nat}(t:ae)(c o:Int)(h:pq s q):pq (fQ G q s t c o).2 (fQ G q s t c o).1:=by
 unfold fQ;split
 ·exact h
 ·refine⟨by have:=h.1;simp[tQ];omega,fun i A=>?_⟩
  rcases List.mem_append.1 A with A|A
  ·have:=h.2 i A
   simp[tQ];omega
  ·rw[List.mem_singleton]at A
   simp[tQ];omega
theorem Lb{G:List Dc}{q:RW}{s:List Nat}(t:ae)(o:Int)(h:pq s q):pq (uf G q s t) (nM G q s t o):=by
 by_cases B:t.kind=7\/t.kind=8\/t.kind=12\/t.kind=16
 ·obtain⟨C,D,A⟩:=sK G q s t o
  rcases B with k|k|k|k
  ·rw[oD G q s t 3 o (.inl k),A (.inl k)];exact LF t 3 o h
  ·rw[oD G q s t 3 o (.inr (.inl k)),A (.inr k)];exact LF t 3 o h
  ·rw[oD G q s t 4 o (.inr (.inr (.inl k))),C k];exact LF t 4 o h
  ·rw[oD G q s t 5 o (.inr (.inr (.inr k))),D k];exact LF t 5 o h
 ·unfold uf
  rw[if_neg B];exact h.mono (ES G q s t o).1
mutual
theorem Es(G:List Dc)(mk:Int):∀(t:ae) (o:Int) (s:List Nat) (q:RW),uQ q (bR G mk t o s q).1 (ai t)/\(bR G mk t o s q).1.num+1=q.num+ai t/\(pq s q->pq (bR G mk t o s q).2 (bR G mk t o s q).1)
 | .node k x a e kids,o,s,q=>by
  rw[bR];try simp only
  have A:=Rx mk q s;have B:=ES G (dI mk q s) s (.node k x a e kids) o;obtain⟨D,F,H⟩:=Oh G mk k (uf G (dI mk q s) s (.node k x a e kids)) kids 0 (if k=3\/k=5 then(q.num:Int) else o) s (nM G (dI mk q s) s (.node k x a e kids) o);refine⟨(A.trans B.1 (aab _)).trans D (by rw[ai];omega),by rw[F,B.2,qM,ai];omega,fun C=>?_⟩;have E:=Lb (G:=G) (q:=dI mk q s) (.node k x a e kids) o (C.mono A);split
  ·exact H E ((C.mono A).mono B.1)
  ·split
   ·exact E.mono D
   ·exact((C.mono A).mono B.1).mono D
theorem Oh(G:List Dc)(mk k:Int)(A:List Nat):∀(ts:List ae) (i:Nat) (o:Int) (s:List Nat) (q:RW),uQ q (dW G mk k A ts i o s q).1 (aD ts)/\(dW G mk k A ts i o s q).1.num=q.num+aD ts/\(pq A q->pq s q->pq (dW G mk k A ts i o s q).2 (dW G mk k A ts i o s q).1)
 | [],i,o,s,q=>by
  rw[dW];exact⟨uQ.refl _,rfl,fun _ h=>h⟩
 | t::ts,i,o,s,q=>by
  rw[dW];try simp only
  have C:uQ q { q with num:=q.num+1 } 0:=⟨aab _,aab _,aab _,rfl⟩
  obtain⟨D,F,H⟩:=Es G mk t o (if k=16/\i=2 then A else s) { q with num:=q.num+1 };obtain⟨I,J,K⟩:=Oh G mk k A ts (i+1) o (if k=5\/k=6\/k=11 then(bR G mk t o (if k=16/\i=2 then A else s) { q with num:=q.num+1 }).2 else if k=16/\i=2 then A else s) (bR G mk t o (if k=16/\i=2 then A else s) { q with num:=q.num+1 }).1;refine⟨(C.trans D (aab _)).trans I (by rw[aD];omega),?_,fun E L=>?_⟩
  ·have e:({ q with num:=q.num+1 }:RW).num=q.num+1:=rfl
   rw[e]at F;rw[J,aD];omega
  ·have B:pq (if k=16/\i=2 then A else s) { q with num:=q.num+1 }:=by
    split
    ·exact E.mono C
    ·exact L.mono C
   refine K ((E.mono C).mono D) ?_;split
   ·exact H B
   ·exact B.mono D
end
theorem glob_has{ts:List ae}{y:ae}(F:y∈ts)(D:y.kind=3\/y.kind=4\/y.kind=5):∃d,nN (iy ts 0 (-1) []) (decide (y.kind=4)) y.text=some d:=by
 rw[KV,KY,G5];obtain⟨a,b,rfl⟩:=List.append_of_mem F
 have B:∃d∈jP (a++y::b) 0 (-1),pD (decide (y.kind=4)) y.text d=true:=by
  rw[yf];rcases D with h|h|h
  ·exact⟨⟨0,y.text,((0+a.length:Nat):Int),-1⟩,List.mem_append_right _ (by rw[jP];rw[if_pos h];exact List.mem_append_left _ (List.mem_singleton.2 rfl)),by simp[pD,h]⟩
  ·exact⟨⟨1,y.text,((0+a.length:Nat):Int),wE a 0 (-1)⟩,List.mem_append_right _ (by rw[jP];rw[if_neg (by omega),if_neg (by omega),if_pos h];exact List.mem_append_left _ (List.mem_singleton.2 rfl)),by simp[pD,h]⟩
  ·exact⟨⟨2,y.text,((0+a.length:Nat):Int),-1⟩,List.mem_append_right _ (by rw[jP];rw[if_neg (by omega),if_pos h];exact List.mem_append_left _ (List.mem_singleton.2 rfl)),by simp[pD,h]⟩
 obtain⟨d,C,E⟩:=B
 cases A:(jP (a++y::b) 0 (-1)).find? (pD (decide (y.kind=4)) y.text) with
 | none=>
  rw[List.find?_eq_none]at A;exact absurd E (by simpa using A d C)
 | some z=>exact⟨z,rfl⟩
theorem Lg(A:List Dc)(d:Dc):(yP A d).length<=A.length+1:=by
 unfold yP;split
 ·omega
 ·simp
theorem O8:∀(ts:List ae) (i:Nat) (o:Int) (A:List Dc),(iy ts i o A).length<=A.length+ts.length
 | [],_,_,_=>by rw[iy];simp
 | t::ts,i,o,A=>by
  rw[iy];refine aac (O8 ts _ _ _) ?_;rw[aao];have:=Lg A ⟨0,t.text,i,-1⟩;have:=Lg A ⟨2,t.text,i,-1⟩;have:=Lg A ⟨1,t.text,i,o⟩;split
  ·omega
  ·split
   ·omega
   ·split<;>omega
end Go.Proofs.YtoepemlnlpamlaaGreat
