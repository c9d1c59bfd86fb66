/- The law NamesResolves holds where what it reads is of bulk at most 1048576: it returns true, and its argument reads as before. Part 36: RwP. -/
import Derived.Test.YtoepemlnlpamlaaGreatReso34
set_option maxRecDepth 100000
set_option maxHeartbeats 4000000
namespace Go.Proofs.YtoepemlnlpamlaaGreat
structure uw (a b:RW) (m:Nat):Prop where
 ds1:a.ds.length<=b.ds.length
 Og:b.ds.length<=a.ds.length+m
 li:b.list.length<=a.list.length+m
 us:b.uses.length=a.uses.length
theorem uw.refl(a:RW):uw a a 0:=⟨abE _,abE _,abE _,rfl⟩
theorem uw.trans{a b c:RW}{m n k:Nat}(h:uw a b m)(g:uw b c n)(hk:m+n<=k):uw a c k:=
 ⟨abF h.ds1 g.ds1,by have:=h.Og;have:=g.Og;omega,by have:=h.li;have:=g.li;omega,g.us.trans h.us⟩
def oJ(s:List Nat)(q:RW):Prop:=s.length<=q.ds.length/\∀i∈s,i<q.ds.length
theorem oJ.mono{s:List Nat}{a b:RW}{m:Nat}(h:oJ s a)(k:uw a b m):oJ s b:=⟨abF h.1 k.ds1,fun i hi=>Nat.lt_of_lt_of_le (h.2 i hi) k.ds1⟩
theorem DL(q:RW)(c:Int)(t:ae):uw q (sG q c t) 1:=⟨abE _,Nat.le_succ _,by simp[sG],rfl⟩
theorem Un(q:RW)(c:Int)(t:ae)(o:Int):uw q (sN q c t o) 1:=⟨by simp[sN],by simp[sN],Nat.le_succ _,by simp[sN]⟩
theorem TC(q:RW)(i:Nat)(v:Int):uw q { q with uses:=q.uses.set i v } 1:=⟨abE _,Nat.le_succ _,Nat.le_succ _,by simp⟩
theorem use_stp(q:RW)(t:ae)(o:Option Int):uw q (su q t o) 1:=by
 cases o with
 | none=>exact DL _ _ _
 | some n=>exact TC _ _ _
theorem var_stp(G:List Dc)(q:RW)(s:List Nat)(t:ae)(c o:Int):uw q (fK G q s t c o).1 1:=by
 unfold fK;split
 ·exact DL _ _ _
 ·exact Un _ _ _ _
theorem WN(G:List Dc)(q:RW)(t:ae)(c o:Int):uw q (fG G q t c o) 1:=by
 unfold fG;split
 ·exact Un _ _ _ _
 ·exact DL _ _ _
theorem aag(q:RW)(s:List Nat)(t:ae):uw q (yx q s t) 1:=by
 unfold yx;split
 ·exact TC _ _ _
 ·exact DL _ _ _
theorem use_num(q:RW)(t:ae)(o:Option Int):(su q t o).num=q.num:=by cases o<;>rfl
theorem var_num(G:List Dc)(q:RW)(s:List Nat)(t:ae)(c o:Int):(fK G q s t c o).1.num=q.num:=by unfold fK;split<;>rfl
theorem WO(G:List Dc)(q:RW)(t:ae)(c o:Int):(fG G q t c o).num=q.num:=by unfold fG;split<;>rfl
theorem aah(q:RW)(s:List Nat)(t:ae):(yx q s t).num=q.num:=by unfold yx;split<;>rfl
theorem Ec(G:List Dc)(q:RW)(s:List Nat)(t:ae)(o:Int):uw q (mV G q s t o) 1/\(mV G q s t o).num=q.num:=by
 unfold mV;repeat (first|exact⟨WN _ _ _ _ _,WO _ _ _ _ _⟩|exact⟨aag _ _ _,aah _ _ _⟩|exact⟨use_stp _ _ _,use_num _ _ _⟩|exact⟨var_stp _ _ _ _ _ _,var_num _ _ _ _ _ _⟩|exact⟨(uw.refl _).trans (uw.refl _) (Nat.le_succ _),rfl⟩|split)
theorem QC(mk:Int)(q:RW)(s:List Nat):uw q (dE mk q s) 0:=by
 unfold dE;split<;>exact⟨abE _,abE _,abE _,rfl⟩
theorem Kv{G:List Dc}{q:RW}{s:List Nat}(t:ae)(c o:Int)(h:oJ s q):oJ (fK G q s t c o).2 (fK G q s t c o).1:=by
 unfold fK;split
 ·exact h
 ·refine⟨by have:=h.1;simp[sN];omega,fun i hi=>?_⟩
  rcases List.mem_append.1 hi with hi|hi
  ·have:=h.2 i hi
   simp[sN];omega
  ·rw[List.mem_singleton]at hi
   simp[sN];omega
theorem J7{G:List Dc}{q:RW}{s:List Nat}(t:ae)(o:Int)(h:oJ s q):oJ (sU G q s t) (mV G q s t o):=by
 by_cases hk:t.kind=7\/t.kind=8\/t.kind=12\/t.kind=16
 ·obtain⟨h1,h2,h3⟩:=rW G q s t o
  rcases hk with k|k|k|k
  ·rw[nS G q s t 3 o (.inl k),h3 (.inl k)];exact Kv t 3 o h
  ·rw[nS G q s t 3 o (.inr (.inl k)),h3 (.inr k)];exact Kv t 3 o h
  ·rw[nS G q s t 4 o (.inr (.inr (.inl k))),h1 k];exact Kv t 4 o h
  ·rw[nS G q s t 5 o (.inr (.inr (.inr k))),h2 k];exact Kv t 5 o h
 ·unfold sU
  rw[if_neg hk];exact h.mono (Ec G q s t o).1
mutual
theorem Dx(G:List Dc)(mk:Int):∀(t:ae) (o:Int) (s:List Nat) (q:RW),uw q (bQ G mk t o s q).1 (au t)/\(bQ G mk t o s q).1.num+1=q.num+au t/\(oJ s q->oJ (bQ G mk t o s q).2 (bQ G mk t o s q).1)
 | .node k x a e kids,o,s,q=>by
  rw[bQ];try simp only
  have h1:=QC mk q s;have h2:=Ec G (dE mk q s) s (.node k x a e kids) o;obtain⟨k1,k2,k3⟩:=Ni G mk k (sU G (dE mk q s) s (.node k x a e kids)) kids 0 (if k=3\/k=5 then(q.num:Int) else o) s (mV G (dE mk q s) s (.node k x a e kids) o);refine⟨(h1.trans h2.1 (abE _)).trans k1 (by rw[au];omega),by rw[k2,h2.2,qx,au];omega,fun hs=>?_⟩;have ha:=J7 (G:=G) (q:=dE mk q s) (.node k x a e kids) o (hs.mono h1);split
  ·exact k3 ha ((hs.mono h1).mono h2.1)
  ·split
   ·exact ha.mono k1
   ·exact((hs.mono h1).mono h2.1).mono k1
theorem Ni(G:List Dc)(mk k:Int)(af:List Nat):∀(ts:List ae) (i:Nat) (o:Int) (s:List Nat) (q:RW),uw q (dQ G mk k af ts i o s q).1 (aG ts)/\(dQ G mk k af ts i o s q).1.num=q.num+aG ts/\(oJ af q->oJ s q->oJ (dQ G mk k af ts i o s q).2 (dQ G mk k af ts i o s q).1)
 | [],i,o,s,q=>by
  rw[dQ];exact⟨uw.refl _,rfl,fun _ h=>h⟩
 | t::ts,i,o,s,q=>by
  rw[dQ];try simp only
  have h0:uw q { q with num:=q.num+1 } 0:=⟨abE _,abE _,abE _,rfl⟩
  obtain⟨a1,a2,a3⟩:=Dx G mk t o (if k=16/\i=2 then af else s) { q with num:=q.num+1 };obtain⟨b1,b2,b3⟩:=Ni G mk k af ts (i+1) o (if k=5\/k=6\/k=11 then(bQ G mk t o (if k=16/\i=2 then af else s) { q with num:=q.num+1 }).2 else if k=16/\i=2 then af else s) (bQ G mk t o (if k=16/\i=2 then af else s) { q with num:=q.num+1 }).1;refine⟨(h0.trans a1 (abE _)).trans b1 (by rw[aG];omega),?_,fun YH hs=>?_⟩
  ·have e:({ q with num:=q.num+1 }:RW).num=q.num+1:=rfl
   rw[e]at a2;rw[b2,aG];omega
  ·have hin:oJ (if k=16/\i=2 then af else s) { q with num:=q.num+1 }:=by
    split
    ·exact YH.mono h0
    ·exact hs.mono h0
   refine b3 ((YH.mono h0).mono a1) ?_;split
   ·exact a3 hin
   ·exact hin.mono a1
end
theorem aa6{ts:List ae}{y:ae}(hy:y∈ts)(hk:y.kind=3\/y.kind=4\/y.kind=5):∃d,mW (il ts 0 (-1) []) (decide (y.kind=4)) y.text=some d:=by
 rw[JW,JX,F7];obtain⟨a,b,rfl⟩:=List.append_of_mem hy
 have hc:∃d∈jy (a++y::b) 0 (-1),pD (decide (y.kind=4)) y.text d=true:=by
  rw[xy];rcases hk with h|h|h
  ·exact⟨⟨0,y.text,((0+a.length:Nat):Int),-1⟩,List.mem_append_right _ (by rw[jy];rw[if_pos h];exact List.mem_append_left _ (List.mem_singleton.2 rfl)),by simp[pD,h]⟩
  ·exact⟨⟨1,y.text,((0+a.length:Nat):Int),vF a 0 (-1)⟩,List.mem_append_right _ (by rw[jy];rw[if_neg (by omega),if_neg (by omega),if_pos h];exact List.mem_append_left _ (List.mem_singleton.2 rfl)),by simp[pD,h]⟩
  ·exact⟨⟨2,y.text,((0+a.length:Nat):Int),-1⟩,List.mem_append_right _ (by rw[jy];rw[if_neg (by omega),if_pos h];exact List.mem_append_left _ (List.mem_singleton.2 rfl)),by simp[pD,h]⟩
 obtain⟨d,hd,hp⟩:=hc
 cases hf:(jy (a++y::b) 0 (-1)).find? (pD (decide (y.kind=4)) y.text) with
 | none=>
  rw[List.find?_eq_none]at hf;exact absurd hp (by simpa using hf d hd)
 | some z=>exact⟨z,rfl⟩
theorem Kb(out:List Dc)(d:Dc):(xZ out d).length<=out.length+1:=by
 unfold xZ;split
 ·omega
 ·simp
theorem Ob:∀(ts:List ae) (i:Nat) (o:Int) (out:List Dc),(il ts i o out).length<=out.length+ts.length
 | [],_,_,_=>by rw[il];simp
 | t::ts,i,o,out=>by
  rw[il];refine abF (Ob ts _ _ _) ?_;rw[abR];have:=Kb out ⟨0,t.text,i,-1⟩;have:=Kb out ⟨2,t.text,i,-1⟩;have:=Kb out ⟨1,t.text,i,o⟩;split
  ·omega
  ·split
   ·omega
   ·split<;>omega
end Go.Proofs.YtoepemlnlpamlaaGreat
