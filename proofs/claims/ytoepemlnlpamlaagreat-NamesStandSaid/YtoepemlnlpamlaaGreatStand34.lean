/- The law NamesStand holds: for every text and every number the law returns true, and its arguments read as before. No condition. Part 34: Ord4 VOk Res1. -/
import Derived.Test.YtoepemlnlpamlaaGreatStand21
import Derived.Test.YtoepemlnlpamlaaGreatStand27
import Derived.Test.YtoepemlnlpamlaaGreatStand28
import Derived.Test.YtoepemlnlpamlaaGreatStand33
set_option maxRecDepth 100000
set_option maxHeartbeats 4000000
namespace Go.Proofs.YtoepemlnlpamlaaGreat
theorem mE(sh:xw):∀(ts:List aa) (i:Nat),gF sh i ts=true->∀c∈ts,∃p,(sh.list=some p\/p∈sh.kids)/\p c.kind=true
 | [],_,_,c,hc=>by cases hc
 | t::ts,i,h,c,hc=>by
  rw[gF,aad]at h;rcases List.mem_cons.1 hc with rfl|hc
  ·have h1:=h.1
   unfold yt at h1
   cases hl:sh.list with
   | some p=>rw[hl]at h1;exact⟨p,.inl rfl,h1⟩
   | none=>
    rw[hl]at h1
    cases hp:sh.kids[i]? with
    | none=>rw[hp]at h1;cases h1
    | some p=>rw[hp]at h1;exact⟨p,.inr (aan hp),h1⟩
  ·exact mE sh ts (i+1) h.2 c hc
def zG(p:Int->Bool):Prop:=∀k,p k=true->k≠2/\k≠3/\k≠4/\k≠5
theorem Dh:zG eQ:=fun k h=>by unfold eQ at h;simp only[Bool.or_eq_true,decide_eq_true_eq]at h;omega
theorem Ut:zG uy:=fun k h=>by unfold uy at h;simp only[aad,decide_eq_true_eq]at h;omega
theorem rZ:zG bA:=fun k h=>by unfold bA at h;simp only[aad,decide_eq_true_eq]at h;omega
theorem BZ:zG nH:=fun k h=>by unfold nH at h;simp only[Bool.or_eq_true,decide_eq_true_eq]at h;omega
theorem qG{p:Int->Bool}(h:zG p):zG (jm p):=fun k hk=>by
 unfold jm at hk;simp only[Bool.or_eq_true,decide_eq_true_eq]at hk;rcases hk with hk|hk
 ·omega
 ·exact h k hk
theorem tK{l:List Int}(h:∀y∈l,y≠2/\y≠3/\y≠4/\y≠5):zG (dH l):=fun k hk=>by
 unfold dH at hk;rw[List.any_eq_true]at hk;obtain⟨y,hy,hk⟩:=hk;rw[decide_eq_true_eq]at hk;subst hk;exact h _ hy
theorem BS{k:Int}{sh:xw}(h:lZ k=some sh)(h2:k≠2)(h3:k≠3):(∀p,sh.list=some p->zG p)/\∀p∈sh.kids,zG p:=by
 cases k with
 | negSucc n=>cases h
 | ofNat n=>
  have h5:tF n=some sh:=h;have n2:n≠2:=fun e=>h2 (by rw[e];rfl)
  have n3:n≠3:=fun e=>h3 (by rw[e];rfl)
  clear h h2 h3;unfold tF at h5;split at h5<;>first|(cases h5;done)|(exact absurd rfl n2)|(exact absurd rfl n3)|skip
  all_goals
   cases h5
   refine⟨?_,?_⟩
   ·intro p hp
    first
     | (cases hp;done)
     | (cases hp;first|exact Ut|exact rZ|exact tK (by decide))
   ·intro p hp
    first
     | (cases hp;done)
     | (simp only[List.mem_cons,List.not_mem_nil,or_false]at hp
        first
         | (rcases hp with rfl|rfl|rfl<;>first|exact rZ|exact BZ|exact tK (by decide)|exact qG Dh|exact qG rZ|exact qG (tK (by decide)))
         | (rcases hp with rfl|rfl<;>first|exact rZ|exact BZ|exact tK (by decide)|exact qG Dh|exact qG rZ|exact qG (tK (by decide)))
         | (subst hp;first|exact rZ|exact BZ|exact tK (by decide)|exact qG Dh|exact qG rZ|exact qG (tK (by decide))))
theorem iD{t:aa}(h:dR t=true):∃sh,lZ t.kind=some sh/\nR sh t=true:=by
 unfold dR at h
 cases hs:lZ t.kind with
 | none=>rw[hs]at h;cases h
 | some sh=>
  rw[hs]at h;rw[aad]at h;exact⟨sh,rfl,h.1⟩
theorem jR{sh:xw}{t:aa}(h:nR sh t=true):sh.text t.text=true/\oQ sh t.kids.length=true/\gF sh 0 t.kids=true:=by
 unfold nR at h;rw[aad,aad]at h;exact⟨h.1.1,h.1.2,h.2⟩
theorem jJ(t:aa):gU t=(dR t&&(aX t.kids).all dR):=by
 unfold gU;rw[kC,List.all_cons]
mutual
theorem Uw:∀(t:aa),gU t=true->(t.kind≠2/\t.kind≠3/\t.kind≠4/\t.kind≠5)->Qz t=true
 | .node k x a e kids,h,hk=>by
  rw[jJ,aad]at h;obtain⟨sh,hs,hf⟩:=iD h.1;obtain⟨-,hc,nM⟩:=jR hf;have hk':k≠2/\k≠3/\k≠4/\k≠5:=hk;have hs':lZ k=some sh:=hs;obtain⟨hi1,hi2⟩:=BS hs' hk'.1 hk'.2.1;rw[Qz];simp only[aad,Bool.or_eq_true,decide_eq_true_eq];refine⟨⟨⟨hk',?_⟩,?_⟩,xZ kids h.2 fun c hc=>?_⟩
  ·by_cases h12:k=12
   ·subst h12
    right
    have:some _=some sh:=hs';cases this
    simpa [oQ,aa.kids] using hc
   ·exact .inl h12
  ·by_cases h16:k=16
   ·subst h16
    right
    have:some _=some sh:=hs';cases this
    simpa [oQ,aa.kids] using hc
   ·exact .inl h16
  ·obtain⟨p,hp,hpk⟩:=mE sh kids 0 nM c hc
   rcases hp with hp|hp
   ·exact hi1 p hp _ hpk
   ·exact hi2 p hp _ hpk
theorem xZ:∀(ts:List aa),(aX ts).all dR=true->(∀c∈ts,c.kind≠2/\c.kind≠3/\c.kind≠4/\c.kind≠5)->vF ts=true
 | [],_,_=>by rw[vF]
 | t::ts,h,hc=>by
  rw[aX,List.all_append,aad]at h;rw[vF,aad];exact⟨Uw t h.1 (hc t (by simp)),xZ ts h.2 fun c hx=>hc c (by simp[hx])⟩
end
theorem Uk{ts:List aa}(h:(aX ts).all dR=true):∀c∈ts,gU c=true:=by
 induction ts with
 | nil=>intro c hc;cases hc
 | cons t ts ih=>
  rw[aX,List.all_append,aad]at h;intro c hc;rcases List.mem_cons.1 hc with rfl|hc
  ·exact h.1
  ·exact ih h.2 c hc
theorem jK{t:aa}(h:gU t=true):∀c∈t.kids,gU c=true:=by
 rw[jJ,aad]at h;exact Uk h.2
theorem Q3(t:aa)(h:gU t=true)(hk:t.kind=3\/t.kind=5):vE t=true:=by
 have mh:=jK h;have hn:=h;rw[jJ,aad]at hn;obtain⟨sh,hs,hf⟩:=iD hn.1;obtain⟨-,hc,nM⟩:=jR hf;have hmem:=mE sh t.kids 0 nM;obtain⟨k,x,a,e,kids⟩:=t;rw[vE,Bool.or_eq_true,aad,aad,aad,decide_eq_true_eq,decide_eq_true_eq,decide_eq_true_eq];rcases hk with hk|hk
 ·left
  have hk':k=3:=hk;subst hk';have he:some _=some sh:=hs;cases he
  refine⟨rfl,List.all_eq_true.2 fun f hf=>?_⟩;rw[aad,decide_eq_true_eq]
  have R6:f.kind=4:=by
   obtain⟨p,hp,hpk⟩:=hmem f hf;rcases hp with hp|hp
   ·cases hp
    simpa [dH] using hpk
   ·cases hp
  refine⟨R6,?_⟩;have Z8:=mh f hf;have hsk:=jK Z8;rw[jJ,aad]at Z8;obtain⟨sh,hs,hff⟩:=iD Z8.1;obtain⟨-,hc,nM⟩:=jR hff;refine xZ _ Z8.2 fun c hc=>?_
  rw[R6]at hs;obtain⟨h1,h2⟩:=BS hs (by decide) (by decide);obtain⟨p,hp,hpk⟩:=mE sh f.kids 0 nM c hc;rcases hp with hp|hp
  ·exact h1 p hp _ hpk
  ·exact h2 p hp _ hpk
 ·right
  have hk':k=5:=hk;subst hk';have he:some _=some sh:=hs;obtain⟨h1,h2⟩:=BS hs (show(5:Int)≠2 by decide) (show(5:Int)≠3 by decide);cases he
  refine⟨⟨rfl,by simpa [oQ,aa.kids] using hc⟩,xZ _ hn.2 fun c hc=>?_⟩;obtain⟨p,hp,hpk⟩:=hmem c hc;rcases hp with hp|hp
  ·exact h1 p hp _ hpk
  ·exact h2 p hp _ hpk
theorem zw{t:aa}(h:j6 t=true):t.kind=2/\∀k∈t.kids,vE k=true:=by
 unfold j6 at h;rw[aad,decide_eq_true_eq]at h;refine⟨h.1,fun k hk=>?_⟩;have hsh:=jK h.2 k hk;have hn:=h.2;rw[jJ,aad]at hn;obtain⟨sh,hs,hf⟩:=iD hn.1;obtain⟨-,hc,nM⟩:=jR hf;obtain⟨p,hp,hpk⟩:=mE sh t.kids 0 nM k hk;rw[h.1]at hs;have he:some _=some sh:=hs;cases he
 rcases hp with hp|hp
 ·cases hp
  have:k.kind=3\/k.kind=5:=by simpa [dH] using hpk
  exact Q3 k hsh this
 ·cases hp
theorem Gh{nl:Bool}:∀{ts:List aa},(∀t∈ts,qx nl t=true)->mq nl ts=true
 | [],_=>by rw[mq]
 | t::ts,h=>by
  rw[mq,aad];exact⟨h t (by simp),Gh fun u hu=>h u (by simp[hu])⟩
mutual
theorem vok_inT:∀(t:aa),Qz t=true->qx false t=true
 | .node k x a e kids,h=>by
  rw[Qz]at h;simp only[aad,Bool.or_eq_true,decide_eq_true_eq]at h;obtain⟨⟨⟨hk,h12⟩,h16⟩,hks⟩:=h;have hv:=Et kids hks;rw[qx,if_neg (show ¬k=5 by omega)];split
  ·exact hv
  split
  ·simp only[Bool.not_false,Bool.true_and,aad,Bool.or_eq_true,decide_eq_true_eq]
   exact⟨⟨h12,h16⟩,hv⟩
  ·exact hv
theorem Et:∀(ts:List aa),vF ts=true->mq false ts=true
 | [],_=>by rw[mq]
 | t::ts,h=>by
  rw[vF,aad]at h;rw[mq,aad];exact⟨vok_inT t h.1,Et ts h.2⟩
end
theorem IM{c:aa}(h:gU c=true)(hk:c.kind=9):c.kids=[]:=by
 rw[jJ,aad]at h;obtain⟨sh,hs,hf⟩:=iD h.1;obtain⟨-,hc,-⟩:=jR hf;rw[hk]at hs;have he:some _=some sh:=hs;cases he
 have:c.kids.length=0:=by simpa [oQ] using hc
 exact List.length_eq_zero_iff.1 this
theorem Ku{f:aa}(h:gU f=true)(hk:f.kind=4):∀c∈f.kids,c.kind=9:=by
 rw[jJ,aad]at h;obtain⟨sh,hs,hf⟩:=iD h.1;obtain⟨-,-,nM⟩:=jR hf;rw[hk]at hs;have he:some _=some sh:=hs;cases he
 intro c hc;obtain⟨p,hp,hpk⟩:=mE _ f.kids 0 nM c hc;rcases hp with hp|hp
 ·cases hp
 ·simp only[List.mem_cons,List.not_mem_nil,or_false]at hp
  subst hp;simpa [dH] using hpk
theorem VC{f:aa}(h:gU f=true)(hk:f.kind=4):qx true f=true:=by
 have h1:=Ku h hk;have h2:=jK h;obtain⟨k,x,a,e,kids⟩:=f;have hk':k=4:=hk;subst hk';rw[qx,if_neg (by decide),if_neg (by decide),if_neg (by decide)];refine Gh fun c hc=>?_
 have h3:=IM (h2 c hc) (h1 c hc);have h4:=h1 c hc;obtain⟨k,x,a,e,kids⟩:=c;have h5:kids=[]:=h3;have h6:k=9:=h4;subst h5 h6;rw[qx,if_neg (by decide),if_neg (by decide),if_neg (by decide),mq]
theorem vok_top{t:aa}(h:gU t=true)(ht:vE t=true):qx true t=true:=by
 have h2:=jK h;obtain⟨k,x,a,e,kids⟩:=t;rw[vE,Bool.or_eq_true,aad,aad,aad,decide_eq_true_eq,decide_eq_true_eq,decide_eq_true_eq]at ht;rcases ht with⟨rfl,hf⟩| ⟨⟨rfl,hl⟩,hin⟩
 ·rw[qx,if_neg (by decide),if_neg (by decide),if_neg (by decide)]
  refine Gh fun f hfm=>?_
  have h3:=List.all_eq_true.1 hf f hfm;rw[aad,decide_eq_true_eq]at h3;exact VC (h2 f hfm) h3.1
 ·rw[qx,if_pos rfl,aad,decide_eq_true_eq]
  exact⟨hl,Et kids hin⟩
theorem LY{t:aa}(h:j6 t=true):qx true t=true:=by
 obtain⟨h1,h2⟩:=zw h;unfold j6 at h;rw[aad]at h;have h3:=jK h.2;obtain⟨k,x,a,e,kids⟩:=t;have hk:k=2:=h1;subst hk;rw[qx,if_neg (by decide),if_neg (by decide),if_neg (by decide)];exact Gh fun c hc=>vok_top (h3 c hc) (h2 c hc)
open Go.RowKit
theorem bf.pushU{E:RC}{G:bD}{r:RS}{V:RV}{w w3:World}(h:bf E G r V w)(hv:r.bH=[])(hvv:V.vals=[])(x:Int){A3:Option Addr}{c3:Nat}
 (ho:aP w3 E.base 3 1 (.slice A3 (r.uses.length+1) c3) (r.uses.length+1) (jN r.uses++[.int .i64 x])) (hg:w.grownBy w3 (Value.slice E.uA r.uses.length E.uc).ownBlock):
 bf { E with uA:=A3,uc:=c3 } G { r with uses:=r.uses++[x] } V (w3.setCell ⟨E.rp,4,none⟩ (.slice A3 (r.uses.length+1) c3))/\aA (fun g=>E.base<=g) w (w3.setCell ⟨E.rp,4,none⟩ (.slice A3 (r.uses.length+1) c3)):=by
 have hs:aA (fun g=>g=E.rp\/(Value.slice E.uA r.uses.length E.uc).ownBlock=some g) w (w3.setCell ⟨E.rp,4,none⟩ (.slice A3 (r.uses.length+1) c3)):=
  ((aA.refl _ w).grown hg (fun g hg=>.inl (.inr hg))).setCell (.inl (.inl rfl)) _
 have hpr:(Value.slice E.uA r.uses.length E.uc).ownBlock≠some E.rp:=h.us.fe h.blk (by decide);have hb3:ak w3 E.rp 75 _:=h.blk.grown hg (Ne.symm hpr)
 have iF:∀{K:Type} [DecidableEq K] {KK:oM K}{q:Nat}{m:List (K×Value)},aY KK w q m->aY KK (w3.setCell ⟨E.rp,4,none⟩ (.slice A3 (r.uses.length+1) c3)) q m:=fun ha=>ha.since hs (fun h1=>by
  rcases h1 with h1|h1
  ·exact ha.qW h.blk h1
  ·exact ha.jy h.us h1)
 have how:∀{e size v n xs},aP w E.base e size v n xs->e≠75->e≠3->aP (w3.setCell ⟨E.rp,4,none⟩ (.slice A3 (r.uses.length+1) c3)) E.base e size v n xs:=fun ha h1 h2=>ha.since hs (fun g hg h3=>by
  rcases h3 with h3|h3
  ·exact ha.fe h.blk h1 (by rw[hg,h3])
  ·exact ha.apart h.us h2 g hg h3)
 have hl:(r.uses++[x]).length=r.uses.length+1:=by simp
 have R5:jN (r.uses++[x])=jN r.uses++[.int .i64 x]:=by simp[jN]
 refine⟨⟨?_,iF h.gl,iF h.fl,iF h.kn,iF h.vi,?_,how h.ds (by decide) (by decide),?_,how h.ps (by decide) (by decide),h.low,h.apart⟩,?_⟩
 ·have:=hb3.gY 4 (.slice A3 (r.uses.length+1) c3)
  simp only[hl];simpa using this
 ·simp only[hv,hvv]
  rfl
 ·have Di:(Value.slice A3 (r.uses.length+1) c3).ownBlock≠some E.rp:=ho.fe hb3 (by decide)
  have:=ho.setCell (p:=⟨E.rp,4,none⟩) Di (.slice A3 (r.uses.length+1) c3);simp only[hl,R5];exact this
 ·refine aA.mono hs fun g h1=>?_
  rcases h1 with rfl|h1
  ·exact h.low.1
  ·exact(h.us.lt g h1).1
theorem bf.collected{E:RC}{G G':bD}{r:RS}{V:RV}{w w':World}(h:bf E G r V w)(hs:aA (fun x=>x=E.g\/x=E.f\/x=E.k) w w')(hc:CG E.g E.f E.k G' w'):bf E G' r V w' where
 blk:=h.blk.since hs (fun h1=>by
  rcases h1 with h1|h1|h1
  ·exact h.gl.qW h.blk h1.symm
  ·exact h.fl.qW h.blk h1.symm
  ·exact h.kn.qW h.blk h1.symm)
 gl:=hc.gl
 fl:=hc.fl
 kn:=hc.kn
 vi:=h.vi.since hs (fun h1=>by have:=h.apart;omega)
 bH:=fM.of_block h.bH fun g cur hg _=>hs.block g (aae.1 hg).1 fun h1=>by
  have hm:∃es ck,w.heap[g]? =some (.map es ck):=by
   rcases h1 with rfl|rfl|rfl
   ·exact h.gl.isMap
   ·exact h.fl.isMap
   ·exact h.kn.isMap
  obtain⟨es,ck,hm⟩:=hm;rw[hm]at hg;cases hg
 ds:=h.ds.since hs (fun g hg h1=>by
  rcases h1 with rfl|rfl|rfl
  ·exact h.gl.jy h.ds hg
  ·exact h.fl.jy h.ds hg
  ·exact h.kn.jy h.ds hg)
 us:=h.us.since hs (fun g hg h1=>by
  rcases h1 with rfl|rfl|rfl
  ·exact h.gl.jy h.us hg
  ·exact h.fl.jy h.us hg
  ·exact h.kn.jy h.us hg)
 ps:=h.ps.since hs (fun g hg h1=>by
  rcases h1 with rfl|rfl|rfl
  ·exact h.gl.jy h.ps hg
  ·exact h.fl.jy h.ps hg
  ·exact h.kn.jy h.ps hg)
 low:=h.low
 apart:=h.apart
theorem fM.since{w w':World}{base:Nat}{ub:Option Nat}{S:Nat->Prop}(hs:aA S w w'):∀{l:List (Int×List Int)}{vals:List (Int×Value)},fM w base ub l vals->(∀y∈vals,∀g,y.2.ownBlock=some g->¬S g)->fM w' base ub l vals
 | [],_,h,_=>h
 | x::_,_,⟨v,vs,h1,h2,h3,h4⟩,hk=>by
  subst h1;exact⟨v,vs,rfl,h2.since hs (fun g hg=>hk (x.1,v) (by simp) g hg),h3,fM.since hs h4 fun y hy=>hk y (by simp[hy])⟩
theorem fM.split{w:World}{base:Nat}{ub:Option Nat}{k:Int}{v:Value}{v2:List (Int×Value)}:∀(v1:List (Int×Value)) {l:List (Int×List Int)},fM w base ub l (v1++(k,v)::v2) ->
 ∃l1 lx l2,l=l1++(k,lx)::l2/\aP w base 3 1 v lx.length (jN lx)/\(∀g,v.ownBlock=some g->ub≠some g) /\
  ∀DV w',aP w' base 3 1 v DV.length (jN DV)->aA (fun g=>v.ownBlock=some g) w w'->fM w' base ub (l1++(k,DV)::l2) (v1++(k,v)::v2)
 | [],l,h=>by
  cases l with
  | nil=>
   have:([]:List (Int×Value))++(k,v)::v2=[]:=h
   cases this
  | cons x l=>
   obtain⟨v',vs,h1,h2,h3,h4⟩:=h;simp only[List.nil_append,List.cons.injEq,Prod.mk.injEq]at h1;obtain⟨⟨e1,rfl⟩,rfl⟩:=h1;obtain⟨k',lx⟩:=x;have e2:k=k':=e1;subst e2;exact⟨[],lx,l,rfl,h2,fun g hg=>(h3 g hg).1,fun DV w' ho hs=>⟨v,v2,rfl,ho,h3,fM.since hs h4 fun y hy g hg hv=>(h3 g hv).2 y hy hg⟩⟩
 | y::v1,l,h=>by
  cases l with
  | nil=>
   have:(y::v1)++(k,v)::v2=[]:=h
   cases this
  | cons x l=>
   obtain⟨v',vs,h1,h2,h3,h4⟩:=h;simp only[List.cons_append,List.cons.injEq]at h1;obtain⟨rfl,rfl⟩:=h1;obtain⟨l1,lx,l2,rfl,h5,h6,h7⟩:=fM.split v1 h4;exact⟨x::l1,lx,l2,rfl,h5,h6,fun DV w' ho hs=>⟨v',v1++(k,v)::v2,rfl,h2.since hs (fun g hg hv=>(h3 g hg).2 (k,v) (by simp) hv),h3,h7 DV w' ho hs⟩⟩
theorem bf.setVis{E:RC}{G:bD}{r:RS}{V:RV}{w:World}(h:bf E G r V w){v1 v2:List (Int×Value)}{k:Int}{v:Value}(lh:V.vals=v1++(k,v)::v2):
 ∃l1 lx l2,r.bH=l1++(k,lx)::l2/\aP w E.base 3 1 v lx.length (jN lx) /\
  ∀DV w',aP w' E.base 3 1 v DV.length (jN DV)->aA (fun g=>v.ownBlock=some g) w w'->bf E G { r with bH:=l1++(k,DV)::l2 } V w':=by
 have hv:=h.bH;rw[lh]at hv;obtain⟨l1,lx,l2,e,h5,h6,h7⟩:=fM.split v1 hv;refine⟨l1,lx,l2,e,h5,fun DV w' ho hs=>?_⟩;have iF:∀{K:Type} [DecidableEq K] {KK:oM K}{q:Nat}{m:List (K×Value)},aY KK w q m->aY KK w' q m:=fun ha=>ha.since hs (fun h1=>ha.jy h5 h1)
 refine⟨h.blk.since hs (fun h1=>h5.fe h.blk (by decide) h1),iF h.gl,iF h.fl,iF h.kn,iF h.vi,?_,h.ds.since hs (fun g hg h3=>h.ds.apart h5 (by decide) g hg h3),h.us.since hs (fun g hg h3=>h6 g h3 hg),h.ps.since hs (fun g hg h3=>h.ps.apart h5 (by decide) g hg h3),h.low,h.apart⟩;rw[lh];exact h7 DV w' ho hs
theorem bf.sinceO{E:RC}{G:bD}{r:RS}{V:RV}{w w':World}{S:Nat->Prop}(h:bf E G r V w)(hs:aA S w w')(hS:∀g cs t fr,w.heap[g]? =some (.cells cs t fr)->¬S g)(hM:∀g es ck,w.heap[g]? =some (.map es ck)->¬S g):bf E G r V w':=by
 have iF:∀{K:Type} [DecidableEq K] {KK:oM K}{q:Nat}{m:List (K×Value)},aY KK w q m->aY KK w' q m:=fun ha=>ha.since hs (fun h1=>by
  obtain⟨es,ck,ho⟩:=ha.isMap
  exact hM _ _ _ ho h1)
 have how:∀{e size v n xs},aP w E.base e size v n xs->aP w' E.base e size v n xs:=fun ha=>ha.since hs (fun g hg h1=>by
  obtain⟨cur,ho⟩:=ha.obj g hg
  exact hS _ _ _ _ ho h1)
 exact⟨h.blk.since hs (hS _ _ _ _ h.blk),iF h.gl,iF h.fl,iF h.kn,iF h.vi,fM.of_block h.bH fun g cur hg _=>hs.block g (aae.1 hg).1 (hS _ _ _ _ hg),how h.ds,how h.us,how h.ps,h.low,h.apart⟩
theorem mU.obj{K:Type}[DecidableEq K]{KK:oM K}{w:World}{r b:Nat}{m:List (K×Value)}{left:List (Value×Value)}(h:mU KK w r b m left):∃a c d e,w.heap[b]? =some (.mapIter a c d e):=by
 obtain⟨es,clock,seen,c0,-,-,-,-,h5,-⟩:=h;exact⟨_,_,_,_,h5⟩
theorem N7{α:Type}{F:α->α}{l:List α}{i:Nat}{u:α}(h:l[i]? =some u):((l.take i).map F++l.drop i)[i]? =some u/\((l.take i).map F++l.drop i).set i (F u)=(l.take (i+1)).map F++l.drop (i+1):=by
 obtain⟨hlt,he⟩:=aah.1 h;have hl:((l.take i).map F).length=i:=by simp;omega
 have hd:l.drop i=u::l.drop (i+1):=by rw[List.drop_eq_getElem_cons hlt,he]
 constructor
 ·rw[aal (by omega),hl,Nat.sub_self,hd]
  rfl
 ·rw[List.set_append_right _ _ (by omega),hl,Nat.sub_self,hd,yl h]
  simp
theorem uT{K V:Type}[DecidableEq K](l:List (K×V))(k:K)(v:V)(hn:(l.map (·.1)).Nodup):((dK l k v).map (·.1)).Nodup:=by
 by_cases hk:k∈l.map (·.1)
 ·have:(dK l k v).map (·.1)=l.map (·.1):=by
   clear hn
   induction l with
   | nil=>cases hk
   | cons x l ih=>
    rw[dK];by_cases h:k=x.1
    ·rw[if_pos h,List.map_cons,List.map_cons,h]
    ·rw[if_neg h,List.map_cons,List.map_cons]
     rw[List.map_cons,List.mem_cons]at hk;rw[ih (hk.resolve_left h)]
  rw[this];exact hn
 ·have:dK l k v=l++[(k,v)]:=ED v hk
  rw[this,List.map_append,List.nodup_append];refine⟨hn,by simp,fun a ha b hb=>?_⟩;simp at hb;subst hb;exact fun e=>hk (e ▸ ha)
theorem Ur:DF fun a b=>(a.bH.map (·.1)).Nodup->(b.bH.map (·.1)).Nodup where
 refl:=fun _ h=>h
 trans:=fun h k q=>k (h q)
 none_:=fun r i v h=>by
  unfold aB;cases i
  ·exact h
  ·exact uT _ _ _ h
 say:=fun r i v c t h=>by
  unfold pV aB;cases i
  ·exact h
  ·exact uT _ _ _ h
 decl:=fun r i v c t h=>by
  unfold jk aB;cases i
  ·exact h
  ·exact uT _ _ _ h
 use:=fun r i v k h=>by
  unfold aB;cases i
  ·exact h
  ·exact uT _ _ _ h
 owner:=fun r o h=>h
theorem Tn(G:bD)(t:aa)(i:Bool)(s:aT)(r:RS)(h:(r.bH.map (·.1)).Nodup):((aL G i t s r).1.bH.map (·.1)).Nodup:=Bq Ur G t i s r h
def zR(F:Int->Int)(f:Int->Bool)(l:List (Int×List Int)):List (Int×List Int):=l.map fun x=>(x.1,if f x.1 then x.2 else x.2.map F)
theorem VH{F:Int->Int}{f:Int->Bool}{l l1 l2:List (Int×List Int)}{k:Int}{lx:List Int}(hn:(l.map (·.1)).Nodup)(h:zR F f l=l1++(k,lx)::l2)(hf:f k=true):
 zR F (fun j=>f j&&decide (j≠k)) l=l1++(k,lx.map F)::l2:=by
 unfold zR at h⊢;obtain⟨o1,o2,rfl,h1,h2⟩:=List.map_eq_append_iff.1 h;obtain⟨y,o3,rfl,h3,h4⟩:=List.map_eq_cons_iff.1 h2;have hk:y.1=k:=congrArg Prod.fst h3
 have hx:y.2=lx:=by
  have:=congrArg Prod.snd h3;simp only[hk,hf,if_true]at this;exact this
 rw[List.map_append,List.map_cons,List.nodup_append]at hn;obtain⟨-,hn2,jQ⟩:=hn;rw[List.nodup_cons]at hn2;rw[List.map_append,List.map_cons,<- h1,<- h4]
 have e1:(o1.map fun x=>(x.1,if (f x.1&&decide (x.1≠k))=true then x.2 else x.2.map F))=o1.map fun x=>(x.1,if f x.1=true then x.2 else x.2.map F):=by
  refine List.map_congr_left fun x hx=>?_
  have:x.1≠k:=fun e=>jQ x.1 (List.mem_map.2 ⟨x,hx,rfl⟩) y.1 (by simp) (by rw[e,hk])
  rw[decide_eq_true this,Bool.and_true]
 have e2:(o3.map fun x=>(x.1,if (f x.1&&decide (x.1≠k))=true then x.2 else x.2.map F))=o3.map fun x=>(x.1,if f x.1=true then x.2 else x.2.map F):=by
  refine List.map_congr_left fun x hx=>?_
  have:x.1≠k:=fun e=>hn2.1 (by rw[hk,<- e];exact List.mem_map.2 ⟨x,hx,rfl⟩)
  rw[decide_eq_true this,Bool.and_true]
 rw[e1,e2];congr 2
 rw[hk,hx];simp
theorem XU{F:Int->Int}{f:Int->Bool}{l:List (Int×List Int)}(h:∀k∈l.map (·.1),f k=false):zR F f l=l.map fun x=>(x.1,x.2.map F):=by
 unfold zR;refine List.map_congr_left fun x hx=>?_
 rw[h x.1 (List.mem_map.2 ⟨x,hx,rfl⟩)];rfl
theorem Tv(F:Int->Int)(l:List (Int×List Int)):zR F (fun _=>true) l=l:=by
 unfold zR;simp
end Go.Proofs.YtoepemlnlpamlaaGreat
