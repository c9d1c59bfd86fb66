/- The law NamesBack holds for every text and every number: it returns true, and its arguments read as before. No condition. Part 39: Back5 Back6 Back7 Back8. -/
import Derived.Test.YtoepemlnlpamlaaGreatBakk23
import Derived.Test.YtoepemlnlpamlaaGreatBakk37
import Derived.Test.YtoepemlnlpamlaaGreatBakk38
set_option maxRecDepth 100000
set_option maxHeartbeats 4000000
namespace Go.Proofs.YtoepemlnlpamlaaGreat
section
variable {D:Int}{nm x0:ByteArray}{U:Nat->Bool}{G G0:aW}
def DN(r:RS)(n:Nat):Prop:=∃d∈r.ds,d.node=(n:Int)
theorem DN.mono{r q:RS}{n:Nat}(h:DN r n)(k:nS r q):DN q n:=by
 obtain⟨d,hd,e⟩:=h;obtain⟨l,hl,-⟩:=k.ds;exact⟨d,by rw[hl];exact List.mem_append_left _ hd,e⟩
section
variable (hgl:qc D nm x0 G.globals) (hfl:qc D nm x0 G.fields) (hsc:dC nm=false)
include hgl hfl hsc
theorem YZ{f:aa}(hk:f.kind=4)(hq:∀q∈f.kids,tV q){s:aK}{r:RS}(hR:pO D U G r (aF G false f s r).1)(hs:lU D nm x0 s r.next)(hT:yR D nm x0 f r.next)(hn:0<r.next):
 aF (nM D nm G) false (dU nm U f r.next) (gI D nm s) (gL D nm r)=(gL D nm (aF G false f s r).1,gI D nm s)/\(aF G false f s r).2=s/\uE x0 U f r.next/\(aF G false f s r).1.next=r.next+ah f/\(lI D x0 r.ds->lI D x0 (aF G false f s r).1.ds) /\
  (U r.next=true↔(r.next:Int)=D)/\DN (aF G false f s r).1 r.next:=by
 obtain⟨k,x,a,e,kids⟩:=f;have hk4:k=4:=hk;subst hk4;obtain⟨hin,hno⟩:=zb (show ∀q∈kids,tV q from hq);obtain⟨x',hx'⟩:∃q,(if U r.next=true then nm else x)=q:=⟨_,rfl⟩
 rw[dU,hx'];rw[yR]at hT;rw[bY G false 4 x a e kids s r,if_neg (by decide),if_pos rfl]at hR⊢;rw[bY (nM D nm G) false 4 x' a e _ (gI D nm s) (gL D nm r),if_neg (by decide),if_pos rfl,sD,vG,uE];subst hx';rw[show(gL D nm r).next=r.next from rfl];obtain⟨M,hM⟩:∃M,aQ (aC r false (aj (ak s))) 1 r.next (.node 4 x a e kids) (decide ((aN G.fields x).getD 0≠(r.next:Int)))=M:=⟨_,rfl⟩
 have hdec:=fun h=>QO (G0:=G) (U:=U) (qx:=dD nm U kids (r.next+1)) (i:=false) (v:=aj (ak s)) (r:=r) (c:=1) (k:=4) (x:=x) (a:=a) (z:=e) (kids:=kids) hfl h hT.1 hn
 rw[hM]at hR hdec⊢;have Xq:nS r M:=by rw[<- hM];exact iD.declare r false (aj (ak s)) 1 (.node 4 x a e kids) _
 have hr2:=eU G kids false 0 kids.length s M;obtain⟨k1,k2⟩:=hR.split Xq hr2;obtain⟨g1,g2,g3,g4,g5⟩:=hdec k1;have hsc2:=jo G kids false 0 kids.length s M hin hno;obtain⟨w1,w2,w3,w4⟩:=sQ hgl hfl hsc kids 0 kids.length (r.next+1) false s M (by rw[g3];rfl) hin k2 (hs.mono (by rw[g3];exact Nat.le_succ _)) hT.2;have hnn:=mZ G kids false 0 kids.length s M hin;rw[show(nM D nm G).fields=G.fields.map (rn D nm) from rfl,g1,w1,hsc2];rw[g3]at w2;refine⟨rfl,rfl,⟨fun h=>⟨g2 h,by unfold yU;omega⟩,by simpa using w2⟩,by rw[hnn,g3,ah];simp;omega,fun h=>w4 (by rw[g5];exact h.snoc hT.1.2),g4,DN.mono ⟨_,by rw[g5];exact List.mem_append_right _ (List.mem_singleton.2 rfl),rfl⟩ hr2⟩
theorem MJ:∀{fs:List aa},(∀f∈fs,f.kind=4/\∀q∈f.kids,tV q)->∀{s:aK}{r:RS},pO D U G r (ae G false fs 0 fs.length s r).1->lU D nm x0 s r.next->sO D nm x0 fs r.next->0<r.next ->
 ae (nM D nm G) false (dD nm U fs r.next) 0 fs.length (gI D nm s) (gL D nm r)=(gL D nm (ae G false fs 0 fs.length s r).1,gI D nm s)/\(ae G false fs 0 fs.length s r).2=s/\pM x0 U fs r.next/\(lI D x0 r.ds->lI D x0 (ae G false fs 0 fs.length s r).1.ds) /\
  ∀z∈dO fs r.next,(U z.2=true↔(z.2:Int)=D)/\DN (ae G false fs 0 fs.length s r).1 z.2
 | [],_,s,r,_,_,_,_=>by
  rw[dD,ae,ae,pM];exact⟨rfl,rfl,trivial,id,fun z hz=>by cases hz⟩
 | f::fs,h,s,r,hR,hs,hT,hn=>by
  rw[aaQ,ae]at hR;rw[aaQ,dD,ae,ae,pM];rw[sO]at hT;have hr1:=qi G f false s r;have hr2:=eU G fs false 0 fs.length (aF G false f s r).2 (aF G false f s r).1;obtain⟨k1,k2⟩:=hR.split hr1 hr2;obtain⟨g1,g2,g3,g4,g5,g6,g7⟩:=YZ hgl hfl hsc (h f (List.mem_cons_self ..)).1 (h f (List.mem_cons_self ..)).2 k1 hs hT.1 hn;rw[g2]at k2 hr2⊢;have w:=MJ (fs:=fs) (fun q hq=>h q (List.mem_cons_of_mem _ hq)) k2 (hs.mono hr1.next) (by rw[g4];exact hT.2) (Nat.lt_of_lt_of_le hn hr1.next);rw[g4]at w;rw[g1];refine⟨w.1,w.2.1,⟨g3,w.2.2.1⟩,fun h=>w.2.2.2.1 (g5 h),fun z hz=>?_⟩;rw[dO]at hz;rcases List.mem_cons.1 hz with rfl|hz
  ·exact⟨g6,g7.mono hr2⟩
  ·exact w.2.2.2.2 z hz
theorem rn_rec{x:ByteArray}{a e:Int}{kids:List aa}(hq:∀f∈kids,f.kind=4/\∀q∈f.kids,tV q){r:RS}(hR:pO D U G0 r (aF G false (.node 3 x a e kids) [] r).1)
 (hg:∀y∈G.globals,y.2=D->D<=(r.next:Int)\/((aF G false (.node 3 x a e kids) [] r).1.next:Int)<=D) (hT:yR D nm x0 (.node 3 x a e kids) r.next) (hn:0<r.next):
 aF (nM D nm G) false (dU nm U (.node 3 x a e kids) r.next) [] (gL D nm r)=(gL D nm (aF G false (.node 3 x a e kids) [] r).1,[])/\uE x0 U (.node 3 x a e kids) r.next /\
  (lI D x0 r.ds->lI D x0 (aF G false (.node 3 x a e kids) [] r).1.ds)/\(U r.next=true↔(r.next:Int)=D)/\DN (aF G false (.node 3 x a e kids) [] r).1 r.next/\∀z∈dO kids (r.next+1),(U z.2=true↔(z.2:Int)=D)/\DN (aF G false (.node 3 x a e kids) [] r).1 z.2:=by
 obtain⟨x',hx'⟩:∃q,(if U r.next=true then nm else x)=q:=⟨_,rfl⟩
 rw[dU,hx'];rw[yR]at hT;rw[bY,if_pos rfl]at hR hg;rw[bY (nM D nm G) false 3 x' a e,if_pos rfl,bY G false 3 x a e kids,if_pos rfl,sD,uE];have hent:=vG (D:=D) (nm:=nm) r false ([]:aK);rw[show gI D nm ([]:aK)=[] from rfl]at hent;rw[hent,show(gL D nm r).next=r.next from rfl];subst hx';obtain⟨M,hM⟩:∃M,aQ (aC r false (aj (ak ([]:aK)))) 0 r.next (.node 3 x a e kids) (decide ((aN G.globals x).getD 0≠(r.next:Int)))=M:=⟨_,rfl⟩
 obtain⟨D1,hD1⟩:∃D1:RS,({ M with owner:=(r.next:Int) }:RS)=D1:=⟨_,rfl⟩
 have hdec:=fun h=>QO (G0:=G0) (U:=U) (qx:=dD nm U kids (r.next+1)) (i:=false) (v:=aj (ak ([]:aK))) (r:=r) (c:=0) (k:=3) (x:=x) (a:=a) (z:=e) (kids:=kids) hgl h hT.1 hn
 rw[hM]at hR hg hdec⊢;rw[hD1]at hR hg⊢;have Xq:nS r M:=by rw[<- hM];exact iD.declare r false (aj (ak ([]:aK))) 0 (.node 3 x a e kids) _
 have PO:nS M D1:=by rw[<- hD1];exact iD.owner _ _
 have hr2:=eU G kids false 0 kids.length [] D1;obtain⟨kM,k2⟩:=hR.split Xq (PO.trans hr2);obtain⟨g1,g2,g3,g4,g5⟩:=hdec kM;have Bz:D1.next=r.next+1:=by rw[<- hD1];exact g3
 obtain⟨-,k3⟩:=k2.split PO hr2
 have k4:pO D U G D1 (ae G false kids 0 kids.length [] D1).1:=k3.glob fun y hy he=>by
  rcases hg y hy he with h|h
  ·exact .inl (by omega)
  ·exact .inr h
 have hw:=MJ hgl hfl hsc hq k4 (fun l hl=>by cases hl) (by rw[Bz];exact hT.2) (by omega);rw[Bz]at hw
 have hD1':({ aQ (gL D nm (aC r false (aj (ak ([]:aK))))) 0 r.next (.node 3 (if U r.next=true then nm else x) a e (dD nm U kids (r.next+1))) (decide ((aN (nM D nm G).globals (if U r.next=true then nm else x)).getD 0≠(r.next:Int))) with owner:=(r.next:Int) }:RS)=gL D nm D1:=by
  rw[show(nM D nm G).globals=G.globals.map (rn D nm) from rfl,g1,<- hD1];rfl
 have hdn:DN D1 r.next:=by
  rw[<- hD1];exact⟨_,by show _∈M.ds;rw[g5];exact List.mem_append_right _ (List.mem_singleton.2 rfl),rfl⟩
 rw[hD1'];refine⟨hw.1,⟨fun h=>⟨g2 h,by unfold yU;omega⟩,hw.2.2.1⟩,fun h=>hw.2.2.2.1 ?_,g4,hdn.mono hr2,hw.2.2.2.2⟩;rw[<- hD1];show lI D x0 M.ds;rw[g5];exact h.snoc hT.1.2
theorem WK:∀(ks:List aa),(∀k∈ks,gJ k=true/\vD k=true)->∀(r:RS),pO D U G0 r (ae G false ks 0 ks.length [] r).1->(∀y∈G.globals,y.2=D->D<(r.next:Int)\/∃z∈dO ks r.next,(z.2:Int)=D)->sO D nm x0 ks r.next->0<r.next ->
 ae (nM D nm G) false (dD nm U ks r.next) 0 ks.length [] (gL D nm r)=(gL D nm (ae G false ks 0 ks.length [] r).1,[])/\pM x0 U ks r.next/\(lI D x0 r.ds->lI D x0 (ae G false ks 0 ks.length [] r).1.ds) /\
  (∀z∈dO ks r.next,(U z.2=true↔(z.2:Int)=D)/\DN (ae G false ks 0 ks.length [] r).1 z.2)/\∀z∈kK ks r.next,(U z.2=true↔(z.2:Int)=D)/\DN (ae G false ks 0 ks.length [] r).1 z.2
 | [],_,r,_,_,_,_=>by
  rw[dD,ae,ae,pM];exact⟨rfl,trivial,id,fun z hz=>(by cases hz),fun z hz=>(by cases hz)⟩
 | k::ks,h,r,hR,hg,hT,hn=>by
  rw[aaQ,ae]at hR;rw[aaQ,dD,ae,ae,pM];rw[sO]at hT;obtain⟨hsh,ht⟩:=h k (List.mem_cons_self ..);have hr1:=qi G k false [] r;have hr2:=eU G ks false 0 ks.length (aF G false k [] r).2 (aF G false k [] r).1;obtain⟨k1,k2⟩:=hR.split hr1 hr2;have hs2:(aF G false k [] r).2=[]:=List.length_eq_zero_iff.1 (by rw[Eh];rfl);have hnk:(aF G false k [] r).1.next=r.next+ah k:=(Sj (wX.refl G) k ht [] r rfl).2.2.1;rw[hs2]at k2 hr2⊢
  have Qc:∀y∈G.globals,y.2=D->D<=(r.next:Int)\/((aF G false k [] r).1.next:Int)<=D:=fun y hy he=>by
   rcases hg y hy he with h| ⟨z,hz,hzD⟩
   ·exact .inl (by omega)
   ·rw[dO]at hz
    rcases List.mem_cons.1 hz with rfl|hz
    ·exact .inl (by omega)
    ·have:=(sF ks _ z hz).1
     exact .inr (by rw[hnk];omega)
  have hone:aF (nM D nm G) false (dU nm U k r.next) [] (gL D nm r)=(gL D nm (aF G false k [] r).1,[])/\uE x0 U k r.next/\(lI D x0 r.ds->lI D x0 (aF G false k [] r).1.ds)/\(U r.next=true↔(r.next:Int)=D)/\DN (aF G false k [] r).1 r.next /\
   ∀z∈(dO k.kids (r.next+1)).filter (fun y=>decide (y.1.kind=4)),(U z.2=true↔(z.2:Int)=D)/\DN (aF G false k [] r).1 z.2:=by
   obtain⟨kk,x,a,e,kids⟩:=k;have ht':=ht;rw[vD,Bool.or_eq_true,aaF,aaF,aaF,decide_eq_true_eq,decide_eq_true_eq,decide_eq_true_eq]at ht';rcases ht' with⟨rfl,hf⟩| ⟨⟨rfl,-⟩,-⟩
   ·have h2:=jZ hsh
    have hq:∀f∈kids,f.kind=4/\∀q∈f.kids,tV q:=fun f hfm=>by
     have h3:=List.all_eq_true.1 hf f hfm;rw[aaF,decide_eq_true_eq]at h3;have h4:=KI (h2 f hfm) h3.1;have h5:=jZ (h2 f hfm);exact⟨h3.1,fun c hc=>⟨Pj (h5 c hc) (h4 c hc),.inr (by have:=h4 c hc;omega),by have:=h4 c hc;omega⟩⟩
    obtain⟨g1,g2,g3,g4,g5,g6⟩:=rn_rec hgl hfl hsc hq k1 Qc hT.1 hn;exact⟨g1,g2,g3,g4,g5,fun z hz=>g6 z (List.mem_filter.1 hz).1⟩
   ·obtain⟨g1,g2,g3,g4,g5⟩:=rn_proc hgl hfl hsc hsh (s:=[]) k1 Qc hT.1 hn
    rw[show gI D nm ([]:aK)=[] from rfl,hs2,show gI D nm ([]:aK)=[] from rfl]at g1;refine⟨g1,g2,g3,g4,g5,fun z hz=>?_⟩;exfalso
    obtain⟨hz1,hz2⟩:=List.mem_filter.1 hz;obtain⟨b,c,d,rfl,hb6,-,hlc,Zy,-⟩:=JZ hsh
    have hm:z.1∈[b,c,d]:=by
     have:=uZ [b,c,d] (r.next+1);rw[<- this];exact List.mem_map.2 ⟨z,hz1,rfl⟩
    have Xn:z.1.kind=4:=of_decide_eq_true hz2;have hlc2:=hlc.2.1;simp only[List.mem_cons,List.not_mem_nil,or_false]at hm;rcases hm with e|e|e<;>rw[e]at Xn<;>omega
  obtain⟨g1,g2,g3,g4,g5,g6⟩:=hone
  have w:=WK ks (fun c hc=>h c (List.mem_cons_of_mem _ hc)) (aF G false k [] r).1 k2 (fun y hy he=>by
   rcases hg y hy he with h| ⟨z,hz,hzD⟩
   ·exact .inl (by have:=hr1.next;omega)
   ·rw[dO]at hz
    rcases List.mem_cons.1 hz with rfl|hz
    ·have:=qA k
     exact .inl (by rw[hnk];simp at hzD;omega)
    ·rw[<- hnk]at hz
     exact .inr ⟨z,hz,hzD⟩) (by rw[hnk];exact hT.2) (Nat.lt_of_lt_of_le hn hr1.next)
  rw[hnk]at w;rw[g1];refine⟨w.1,⟨g2,w.2.1⟩,fun h=>w.2.2.1 (g3 h),fun z hz=>?_,fun z hz=>?_⟩
  ·rw[dO]at hz
   rcases List.mem_cons.1 hz with rfl|hz
   ·exact⟨g4,g5.mono hr2⟩
   ·exact w.2.2.2.1 z hz
  ·rw[kK]at hz
   rcases List.mem_append.1 hz with hz|hz
   ·exact⟨(g6 z hz).1,(g6 z hz).2.mono hr2⟩
   ·exact w.2.2.2.2 z hz
end
end
section
variable {G:aW}
def uQ(G:aW)(r:RS):Prop:=∀u∈r.uses,u= -1\/(∃d∈r.ds,d.node=u)\/(∃y∈G.globals,y.2=u)\/∃y∈G.fields,y.2=u
def sj(s:aK)(r:RS):Prop:=∀l∈s,∀y∈l,∃d∈r.ds,d.node=y.2
theorem uQ.same{r q:RS}(h:uQ G r)(h1:q.ds=r.ds)(h2:q.uses=r.uses):uQ G q:=by
 unfold uQ;rw[h1,h2];exact h
theorem sj.mono{s:aK}{r q:RS}(h:sj s r)(k:nS r q):sj s q:=fun l hl y hy=>by
 obtain⟨d,hd,e⟩:=h l hl y hy;obtain⟨m,hm,-⟩:=k.ds;exact⟨d,by rw[hm];exact List.mem_append_left _ hd,e⟩
theorem Pn{l:List Int}{n:Nat}{k u:Int}(h:u∈l.set n k):u∈l\/u=k:=by
 rw[List.mem_iff_getElem?]at h;obtain⟨j,hj⟩:=h;by_cases e:j=n
 ·subst e
  by_cases hl:j<l.length
  ·rw[List.getElem?_set_self hl]at hj
   exact .inr (Option.some.inj hj).symm
  ·rw[List.getElem?_eq_none (by rw[List.length_set];omega)]at hj
   cases hj
 ·rw[LK l n k j e]at hj
  exact .inl (aaP hj)
theorem uQ.decl{r:RS}(h:uQ G r)(c:Int)(n:Nat)(t:aa):uQ G (iR r c n t):=fun u hu=>by
 rcases Pn (show u∈r.uses.set n (n:Int) from hu) with hu|rfl
 ·rcases h u hu with h| ⟨d,hd,e⟩|h
  ·exact .inl h
  ·exact .inr (.inl ⟨d,List.mem_append_left _ hd,e⟩)
  ·exact .inr (.inr h)
 ·exact .inr (.inl ⟨_,List.mem_append_right _ (List.mem_singleton.2 rfl),rfl⟩)
theorem uQ.declare{r:RS}(h:uQ G r)(c:Int)(n:Nat)(t:aa)(b:Bool):uQ G (aQ r c n t b):=by
 cases b
 ·exact h.decl c n t
 ·exact h.same rfl rfl
theorem sj.top{s:aK}{r:RS}(h:sj s r){l:jr}(hl:∀y∈l,∃d∈r.ds,d.node=y.2):sj (fP s l) r:=by
 cases s with
 | nil=>exact h
 | cons x s=>
  have hx:∀(l x:jr),(∀y∈l,∃d∈r.ds,d.node=y.2)->(∀y∈x,∃d∈r.ds,d.node=y.2)->∀y∈l.foldl (fun a y=>cO a y.1 y.2) x,∃d∈r.ds,d.node=y.2:=by
   intro l
   induction l with
   | nil=>intro x _ h;exact h
   | cons a l ih=>
    intro x h1 h2;rw[List.foldl_cons];refine ih _ (fun y hy=>h1 y (List.mem_cons_of_mem _ hy)) fun y hy=>?_
    rcases Hw _ _ _ y hy with hy|rfl
    ·exact h2 y hy
    ·exact h1 a (List.mem_cons_self ..)
  intro l' hl' y hy;rcases List.mem_cons.1 (show l'∈(l.foldl (fun a y=>cO a y.1 y.2) x)::s from hl') with rfl|hl'
  ·exact hx l x hl (h x (List.mem_cons_self ..)) y hy
  ·exact h l' (List.mem_cons_of_mem _ hl') y hy
theorem sj.tail{s:aK}{r:RS}(h:sj s r):sj s.tail r:=fun l hl=>h l (List.mem_of_mem_tail hl)
theorem sj.push{s:aK}{r:RS}(h:sj s r):sj ([]::s) r:=fun l hl y hy=>by
 rcases List.mem_cons.1 hl with rfl|hl
 ·cases hy
 ·exact h l hl y hy
theorem sj.head{s:aK}{r:RS}(h:sj s r):∀y∈s.headD [],∃d∈r.ds,d.node=y.2:=by
 cases s with
 | nil=>intro y hy;cases hy
 | cons l s=>exact h l (List.mem_cons_self ..)
theorem var_uok{r:RS}(i:Bool)(v:List Int)(c:Int)(t:aa){s:aK}(h:uQ G r)(hs:sj s r):uQ G (aA G (aC r i v) c r.next t s).1/\sj (aA G (aC r i v) c r.next t s).2 (aA G (aC r i v) c r.next t s).1:=by
 unfold aA;split
 ·exact⟨h.same rfl rfl,hs⟩
 ·refine⟨(h.same (q:=aC r i v) rfl rfl).decl c r.next t,(hs.mono (YY r i v c t)).top fun y hy=>?_⟩
  rw[List.mem_singleton]at hy;subst hy;exact⟨_,List.mem_append_right _ (List.mem_singleton.2 rfl),rfl⟩
theorem useN_ok{r:RS}(i:Bool)(v:List Int)(t:aa){s:aK}(h:uQ G r)(hs:sj s r):uQ G (gH G s r (aC r i v) t):=by
 have hu:∀o:Option Int,(∀k,o=some k->(∃d∈r.ds,d.node=k)\/(∃y∈G.globals,y.2=k)\/∃y∈G.fields,y.2=k)->uQ G (fC (aC r i v) r.next t o):=fun o ho=>by
  cases o with
  | none=>exact h.same rfl rfl
  | some k=>
   intro u hu;rcases Pn (show u∈r.uses.set r.next k from hu) with hu|rfl
   ·exact h u hu
   ·exact .inr (ho u rfl)
 have hg:∀p:Int->Bool,∀k,(aN G.globals t.text).filter p=some k->(∃d∈r.ds,d.node=k)\/(∃y∈G.globals,y.2=k)\/∃y∈G.fields,y.2=k:=fun p k e=>by
  obtain⟨e1,-⟩:=Option.filter_eq_some_iff.1 e;exact .inr (.inl ⟨_,rQ e1,rfl⟩)
 have hf:∀{s:aK}{k:Int},sj s r->bV s t.text=some k->∃d∈r.ds,d.node=k:=by
  intro s
  induction s with
  | nil=>intro k _ e;cases e
  | cons l s ih=>
   intro k hs e;rw[bV]at e
   cases hk:aN l t.text with
   | some j=>
    rw[hk]at e;cases e
    exact hs l (List.mem_cons_self ..) _ (rQ hk)
   | none=>
    rw[hk]at e;exact ih (fun l' hl'=>hs l' (List.mem_cons_of_mem _ hl')) e
 unfold gH;split
 ·exact hu _ fun k e=>.inl (hf hs e)
 split
 ·exact hu _ fun k e=>.inr (.inr ⟨_,rQ e,rfl⟩)
 split
 ·exact hu _ fun k e=>.inr (.inl ⟨_,rQ e,rfl⟩)
 split
 ·exact hu _ (hg _)
 split
 ·exact hu _ (hg _)
 ·exact h.same rfl rfl
mutual
theorem TY:∀(t:aa) (i:Bool) (s:aK) (r:RS),uQ G r->sj s r->uQ G (aF G i t s r).1/\sj (aF G i t s r).2 (aF G i t s r).1
 | .node k x a e kids,i,s,r,h,hs=>by
  have hdec:∀(c:Int) (b:Bool),uQ G (aQ (aC r i (aj (ak s))) c r.next (.node k x a e kids) b)/\sj s (aQ (aC r i (aj (ak s))) c r.next (.node k x a e kids) b):=fun c b=>
   ⟨(h.same (q:=aC r i (aj (ak s))) rfl rfl).declare c r.next _ b,hs.mono (iD.declare r i (aj (ak s)) c _ b)⟩
  have hvar:=fun(c:Int) (s':aK) (hs':sj s' r)=>var_uok i (aj (ak s)) c (.node k x a e kids) h hs'
  rw[bY];split
  ·exact jy kids i 0 kids.length s _ ((hdec 0 _).1.same rfl rfl) (hdec 0 _).2
  split
  ·exact jy kids i 0 kids.length s _ (hdec 1 _).1 (hdec 1 _).2
  split
  ·obtain⟨D,hD⟩:∃D:RS,({ aQ (aC r i (aj (ak s))) 2 r.next (.node k x a e kids) (decide ((aN G.globals x).getD 0≠(r.next:Int))) with owner:=(r.next:Int) }:RS)=D:=⟨_,rfl⟩
   have h1:uQ G D/\sj s D:=by rw[<- hD];exact⟨(hdec 2 _).1.same rfl rfl,(hdec 2 _).2⟩
   rw[hD];have h2:=jy kids false 0 2 [[]] D h1.1 (fun l hl y hy=>by rw[List.mem_singleton]at hl;subst hl;cases hy);have h3:=jy kids true 2 1 ([]::(ae G false kids 0 2 [[]] D).2) (ae G false kids 0 2 [[]] D).1 h2.1 h2.2.push;exact⟨h3.1,(h1.2.mono (eU G kids false 0 2 [[]] D)).mono (eU G kids true 2 1 _ _)⟩
  split
  ·exact jy kids i 0 kids.length _ _ (hvar 3 s hs).1 (hvar 3 s hs).2
  split
  ·have h2:=jy kids i 0 kids.length ([]::s) (aC r i (aj (ak s))) (h.same rfl rfl) hs.push
   exact⟨h2.1,h2.2.tail⟩
  split
  ·have h1:=hvar 4 ([]::s) hs.push
   have h2:=jy kids i 0 2 s _ h1.1 (hs.mono (zl G r i (aj (ak s)) 4 (.node k x a e kids) ([]::s)));exact⟨h2.1,h2.2.top fun y hy=>(h1.2.mono (eU G kids i 0 2 s _)).head y hy⟩
  split
  ·have h1:=hvar 5 ([]::s) hs.push
   have h2:=jy kids i 0 2 s _ h1.1 (hs.mono (zl G r i (aj (ak s)) 5 (.node k x a e kids) ([]::s)))
   have h3:=jy kids i 2 1 ((aA G (aC r i (aj (ak s))) 5 r.next (.node k x a e kids) ([]::s)).2.headD []::(ae G i kids 0 2 s (aA G (aC r i (aj (ak s))) 5 r.next (.node k x a e kids) ([]::s)).1).2) _ h2.1 (fun l hl y hy=>by
    rcases List.mem_cons.1 hl with rfl|hl
    ·exact(h1.2.mono (eU G kids i 0 2 s _)).head y hy
    ·exact h2.2 l hl y hy)
   exact⟨h3.1,h3.2.tail⟩
  ·exact jy kids i 0 kids.length s _ (useN_ok i _ _ h hs) (hs.mono (OI G s r i (aj (ak s)) _))
theorem jy:∀(ts:List aa) (i:Bool) (f n:Nat) (s:aK) (r:RS),uQ G r->sj s r->uQ G (ae G i ts f n s r).1/\sj (ae G i ts f n s r).2 (ae G i ts f n s r).1
 | [],_,_,_,_,_,h,hs=>by rw[ae];exact⟨h,hs⟩
 | t::ts,i,f+1,n,s,r,h,hs=>by rw[ae];exact jy ts i f n s r h hs
 | t::ts,i,0,0,s,r,h,hs=>by rw[ae];exact⟨h,hs⟩
 | t::ts,i,0,n+1,s,r,h,hs=>by
  rw[ae];have h1:=TY t i s r h hs;exact jy ts i 0 n (aF G i t s r).2 (aF G i t s r).1 h1.1 h1.2
end
end
section
variable {D:Int}{nm x0:ByteArray}{U:Nat->Bool}
mutual
theorem txT_of:∀(t:aa) (n:Nat),(∀j y,(dV t)[j]? =some y->y.text≠nm/\(((n+j:Nat):Int)=D->y.text=x0))->yR D nm x0 t n
 | .node k x a z kids,n,h=>by
  rw[yR];refine⟨h 0 (.node k x a z kids) (by rw[dV];rfl),Om kids (n+1) fun j y hy=>?_⟩;have:=h (j+1) y (by rw[dV,aaL];exact hy);rw[show n+1+j=n+(j+1) by omega];exact this
theorem Om:∀(ts:List aa) (n:Nat),(∀j y,(dh ts)[j]? =some y->y.text≠nm/\(((n+j:Nat):Int)=D->y.text=x0))->sO D nm x0 ts n
 | [],n,_=>by rw[sO];trivial
 | t::ts,n,h=>by
  rw[sO];have hl:(dV t).length=ah t:=qo t;refine⟨txT_of t n fun j y hy=>h j y ?_,Om ts (n+ah t) fun j y hy=>?_⟩
  ·rw[dh,List.getElem?_append_left (aaJ.1 hy).1]
   exact hy
  ·have:=h (ah t+j) y (by rw[dh,aaN (by omega),hl,Nat.add_sub_cancel_left];exact hy)
   rw[show n+ah t+j=n+(ah t+j) by omega];exact this
end
mutual
theorem OL:∀(t:aa) (n:Nat),uE x0 U t n->dU x0 U (dU nm U t n) n=t
 | .node k x a z kids,n,h=>by
  rw[uE]at h;rw[dU,dU,OO kids (n+1) h.2];by_cases hu:U n=true
  ·rw[if_pos hu,(h.1 hu).1]
  ·rw[if_neg hu,if_neg hu]
theorem OO:∀(ts:List aa) (n:Nat),pM x0 U ts n->dD x0 U (dD nm U ts n) n=ts
 | [],n,_=>by rw[dD,dD]
 | t::ts,n,h=>by
  rw[pM]at h;rw[dD,dD,ql,OL t n h.1,OO ts (n+ah t) h.2]
end
theorem U5(sh:vN):∀(ts:List aa) (i n:Nat),fA sh i (dD nm U ts n)=fA sh i ts:=fun ts i n=>by
 refine DC sh _ _ i ?_
 induction ts generalizing n with
 | nil=>rw[dD]
 | cons t ts ih=>rw[dD,List.map_cons,List.map_cons,CB,ih]
theorem Xb{k:Int}(hk:yU k)(hnm:cZ nm=true){sh:vN}(h:lJ k=some sh):sh.text nm=true:=by
 rcases hk with rfl|rfl|rfl|rfl|rfl|rfl|rfl|rfl|rfl|rfl|rfl|rfl
 all_goals
  have he:some _=some sh:=h;cases he
  first|exact hnm|(show Ol nm=true;unfold Ol;rw[hnm,Bool.or_true])
mutual
theorem JJ(hnm:cZ nm=true)(hx0:dC x0=false):∀(t:aa) (n:Nat),uE x0 U t n->(dV t).all fJ=true->(dV (dU nm U t n)).all fJ=true
 | .node k x a z kids,n,hu,h=>by
  rw[uE]at hu;rw[dV,List.all_cons,aaF]at h;rw[dU,dV,List.all_cons,aaF];refine⟨?_,JK hnm hx0 kids (n+1) hu.2 h.2⟩;obtain⟨sh,hs,hf⟩:=iL h.1;obtain⟨f1,f2,f3⟩:=ko hf;have hs':lJ k=some sh:=hs;unfold fJ;rw[show(aa.node k (if U n=true then nm else x) a z (dD nm U kids (n+1))).kind=k from rfl,hs'];have hs2:=h.1;unfold fJ at hs2;rw[hs]at hs2;simp only[aaF]at hs2⊢;refine⟨?_,?_⟩
  ·unfold rW
   rw[show(aa.node k (if U n=true then nm else x) a z (dD nm U kids (n+1))).kids=dD nm U kids (n+1) from rfl,sD,U5,show qB sh kids.length=true from f2,show fA sh 0 kids=true from f3];by_cases hU:U n=true
   ·rw[if_pos hU]
    rw[show sh.text (aa.node k nm a z (dD nm U kids (n+1))).text=true from Xb (hu.1 hU).2 hnm hs'];rfl
   ·rw[if_neg hU]
    rw[show sh.text (aa.node k x a z (dD nm U kids (n+1))).text=true from f1];rfl
  ·have h4:=hs2.2
   by_cases hk:k=4
   ·rw[if_pos (show(aa.node k x a z kids).kind=4 from hk)]at h4
    rw[if_pos hk]
    cases kids with
    | nil=>cases h4
    | cons c cs=>
     have hc:dC c.text=true:=h4;obtain⟨ck,cx,ca,cz,cks⟩:=c;have h5:=hu.2;rw[pM,uE]at h5
     have hno:¬(U (n+1)=true):=fun e=>by
      have:=(h5.1.1 e).1;rw[show dC (aa.node ck cx ca cz cks).text=dC cx from rfl,this,hx0]at hc;cases hc
     rw[dD,dU,if_neg hno];exact hc
   ·rw[if_neg hk]
theorem JK(hnm:cZ nm=true)(hx0:dC x0=false):∀(ts:List aa) (n:Nat),pM x0 U ts n->(dh ts).all fJ=true->(dh (dD nm U ts n)).all fJ=true
 | [],n,_,_=>by rw[dD];rfl
 | t::ts,n,hu,h=>by
  rw[pM]at hu;rw[dh,List.all_append,aaF]at h;rw[dD,dh,List.all_append,aaF];exact⟨JJ hnm hx0 t n hu.1 h.1,JK hnm hx0 ts (n+ah t) hu.2 h.2⟩
end
theorem zf:∀(L:List (ByteArray×Nat)) (l:jr),(L.map (·.1)).Nodup->(∀y∈L,y.1 ∉ l.map (·.1))->lN L l=l++L.map fun y=>(y.1,(y.2:Int))
 | [],l,_,_=>by simp[lN]
 | y::L,l,hn,hd=>by
  rw[List.map_cons,List.nodup_cons]at hn
  have hl:aN l y.1=none:=by
   cases hk:aN l y.1 with
   | none=>rfl
   | some k=>exact absurd (List.mem_map.2 ⟨_,rQ hk,rfl⟩) (hd y (List.mem_cons_self ..))
  have h1:jU l y.1 (y.2:Int)=l++[(y.1,(y.2:Int))]:=by
   unfold jU;rw[hl,if_neg (by simp)];exact Cz _ (hd y (List.mem_cons_self ..))
  have h2:=zf L (l++[(y.1,(y.2:Int))]) hn.2 fun z hz hm=>by
   rw[List.map_append,List.mem_append]at hm;rcases hm with hm|hm
   ·exact hd z (List.mem_cons_of_mem _ hz) hm
   ·simp at hm
    exact hn.1 (by rw[<- hm];exact List.mem_map.2 ⟨z,hz,rfl⟩)
  show lN L (jU l y.1 (y.2:Int))=_;rw[h1,h2,List.map_cons,List.append_assoc];rfl
theorem LW:∀(ks:List aa) (n:Nat),dO (dD nm U ks n) n=(dO ks n).map fun y=>(dU nm U y.1 y.2,y.2)
 | [],n=>by rw[dD,dO];rfl
 | k::ks,n=>by rw[dD,dO,dO,ql,LW ks (n+ah k)];rfl
theorem Y0(t:aa)(n:Nat):(dU nm U t n).kids=dD nm U t.kids (n+1):=by cases t;rfl
theorem Hz(t:aa)(n:Nat):(dU nm U t n).text=if U n=true then nm else t.text:=by cases t;rfl
theorem Sy:∀(ks:List aa) (n:Nat),kK (dD nm U ks n) n=(kK ks n).map fun y=>(dU nm U y.1 y.2,y.2)
 | [],n=>by rw[dD,kK];rfl
 | k::ks,n=>by
  rw[dD,kK,kK,ql,Sy ks (n+ah k),Y0,LW,List.map_append];congr 1
  rw[List.filter_map];congr 1
  refine List.filter_congr fun y _=>?_
  show decide ((dU nm U y.1 y.2).kind=4)=_;rw[CB]
theorem Pm:∀{L:List (aa×Nat)},(L.Pairwise fun a b=>a.2<b.2)->((gm L).map (·.1)).Nodup->(∀z∈L,z.1.text≠nm)->(∀z∈L,U z.2=true↔(z.2:Int)=D) ->
 lN (gm (L.map fun y=>(dU nm U y.1 y.2,y.2))) []=(lN (gm L) []).map (rn D nm)/\(∀y∈lN (gm L) [],∃z∈L,y=(z.1.text,(z.2:Int))):=fun {L} hp hn hx hU=>by
 have e1:lN (gm L) []=(gm L).map fun y=>(y.1,(y.2:Int)):=by rw[zf _ [] hn (fun _ _ h=>by cases h)];rfl
 have hn2:((gm (L.map fun y=>(dU nm U y.1 y.2,y.2))).map (·.1)).Nodup:=by
  clear e1;unfold gm at hn⊢;simp only[List.map_map]at hn⊢;unfold List.Nodup at hn⊢;rw[List.pairwise_map]at hn⊢;refine(hp.and hn).imp_of_mem fun {a b} ha hb h=>?_
  obtain⟨h1,h2⟩:=h;show(dU nm U a.1 a.2).text≠(dU nm U b.1 b.2).text;have h3:a.1.text≠b.1.text:=h2;rw[Hz,Hz];by_cases ea:U a.2=true
  ·by_cases eb:U b.2=true
   ·have:=(hU a ha).1 ea
    have:=(hU b hb).1 eb;omega
   ·rw[if_pos ea,if_neg eb]
    exact fun e=>hx b hb e.symm
  ·by_cases eb:U b.2=true
   ·rw[if_neg ea,if_pos eb]
    exact hx a ha
   ·rw[if_neg ea,if_neg eb]
    exact h3
 have e2:lN (gm (L.map fun y=>(dU nm U y.1 y.2,y.2))) []=(gm (L.map fun y=>(dU nm U y.1 y.2,y.2))).map fun y=>(y.1,(y.2:Int)):=by rw[zf _ [] hn2 (fun _ _ h=>by cases h)];rfl
 refine⟨?_,fun y hy=>?_⟩
 ·rw[e1,e2]
  unfold gm;rw[List.map_map,List.map_map,List.map_map,List.map_map];refine List.map_congr_left fun z hz=>?_
  show((dU nm U z.1 z.2).text,(z.2:Int))=rn D nm (z.1.text,(z.2:Int));rw[Hz];unfold rn;by_cases e:(z.2:Int)=D
  ·rw[if_pos ((hU z hz).2 e),if_pos e]
  ·rw[if_neg (fun h=>e ((hU z hz).1 h)),if_neg e]
 ·rw[e1]at hy
  unfold gm at hy;rw[List.map_map]at hy;obtain⟨z,hz,rfl⟩:=List.mem_map.1 hy;exact⟨z,hz,rfl⟩
theorem glob_rn{ks:List aa}(hn1:(ks.map aa.text).Nodup)(hn2:((xJ ks).map aa.text).Nodup)(hx1:∀z∈dO ks 1,z.1.text≠nm)(hx2:∀z∈kK ks 1,z.1.text≠nm)(hU1:∀z∈dO ks 1,U z.2=true↔(z.2:Int)=D)(hU2:∀z∈kK ks 1,U z.2=true↔(z.2:Int)=D):
 fO (dD nm U ks 1)=nM D nm (fO ks):=by
 have m1:((gm (dO ks 1)).map (·.1)).Nodup:=by rw[sG,uZ];exact hn1
 have m2:((gm (kK ks 1)).map (·.1)).Nodup:=by rw[sG,CK];exact hn2
 unfold fO;rw[sK,sK,LW,Sy,(Pm (Ca ks 1) m1 hx1 hU1).1,(Pm (FY ks 1) m2 hx2 hU2).1,List.foldl_map];unfold nM;congr 1
 have hk:∀(y:aa×Nat),(dU nm U y.1 y.2).kind=y.1.kind:=fun y=>CB nm U y.1 y.2
 simp only[hk]
end
section
variable {D:Int}{nm x0:ByteArray}{U:Nat->Bool}
theorem Si:∀{ks:List aa}{n:Nat},sO D nm x0 ks n->(∀z∈dO ks n,z.1.text≠nm/\((z.2:Int)=D->z.1.text=x0))/\∀z∈kK ks n,z.1.text≠nm/\((z.2:Int)=D->z.1.text=x0)
 | [],n,_=>⟨fun z hz=>(by cases hz),fun z hz=>(by cases hz)⟩
 | k::ks,n,h=>by
  rw[sO]at h;obtain⟨w1,w2⟩:=Si h.2
  have hk:k.text≠nm/\((n:Int)=D->k.text=x0)/\sO D nm x0 k.kids (n+1):=by
   obtain⟨kk,x,a,z,kids⟩:=k;have:=h.1;rw[yR]at this;exact⟨this.1.1,this.1.2,this.2⟩
  refine⟨fun z hz=>?_,fun z hz=>?_⟩
  ·rw[dO]at hz
   rcases List.mem_cons.1 hz with rfl|hz
   ·exact⟨hk.1,hk.2.1⟩
   ·exact w1 z hz
  ·rw[kK]at hz
   rcases List.mem_append.1 hz with hz|hz
   ·exact(Oo hk.2.2) z (List.mem_filter.1 hz).1
   ·exact w2 z hz
where
 Oo:∀{ks:List aa}{n:Nat},sO D nm x0 ks n->∀z∈dO ks n,z.1.text≠nm/\((z.2:Int)=D->z.1.text=x0)
  | [],n,_=>fun z hz=>by cases hz
  | k::ks,n,h=>fun z hz=>by
   rw[sO]at h;rw[dO]at hz;rcases List.mem_cons.1 hz with rfl|hz
   ·obtain⟨kk,x,a,e,kids⟩:=k
    have:=h.1;rw[yR]at this;exact this.1
   ·exact Oo h.2 z hz
theorem SH:∀(ds:List Dc) (i:Nat) (l:List (Int×Int)),uI (ds.map (Ew D nm)) i l=uI ds i l
 | [],_,_=>rfl
 | d::ds,i,l=>by
  have:(Ew D nm d).node=d.node:=by unfold Ew;split<;>rfl
  rw[List.map_cons,uI,uI,this,SH ds]
theorem Dy{x:ByteArray}(h:cZ x=true):dC x=false:=by
 unfold dC;rw[Bool.or_eq_false_iff,decide_eq_false_iff_not,decide_eq_false_iff_not];refine⟨fun e=>?_,fun e=>?_⟩
 all_goals
  rw[e]at h;revert h
  decide
theorem R5{x:ByteArray}{a e:Int}{ks:List aa}(hk:∀k∈ks,vD k=true)(h:(aR (.node 2 x a e ks)).aO=[]):(ks.map aa.text).Nodup/\((xJ ks).map aa.text).Nodup:=by
 obtain⟨r,r1,r2,r3,r4,r5⟩:=OQ x a e ks;rw[r4]at h;obtain⟨h1,-⟩:=Sk (wX.refl (fO ks)) ks [] r hk rfl;rw[h,r1,r3]at h1;have h1':=h1.symm;simp only[List.length_nil,Nat.zero_add,Nat.add_eq_zero_iff]at h1';exact(Z9 hk).1 h1'.1
end
structure SelfU (a b:RS):Prop where
 Sn:nS a b
 Ui:b.next<=a.uses.length->∀d∈b.ds,d∈a.ds\/b.uses[d.node.toNat]? =some d.node
theorem Uh:AY SelfU where
 refl:=fun r=>⟨iD.refl r,fun _ d hd=>.inl hd⟩
 trans:=fun {a b c} h k=>⟨h.Sn.trans k.Sn,fun hl d hd=>by
  have h1:=h.Sn.zF;have h2:=k.Sn.next;rcases k.Ui (by omega) d hd with hd|hd
  ·rcases h.Ui (by omega) d hd with hd2|hd2
   ·exact .inl hd2
   ·by_cases ha:d∈a.ds
    ·exact .inl ha
    obtain⟨l,hl1,-,hl3⟩:=h.Sn.ds;rw[hl1]at hd;rcases List.mem_append.1 hd with hd|hd
    ·exact absurd hd ha
    ·have:=hl3 d hd
     exact .inr (by rw[k.Sn.uses _ (.inl (by omega))];exact hd2)
  ·exact .inr hd⟩
 none_:=fun r i v=>⟨iD.none_ r i v,fun _ d hd=>.inl hd⟩
 say:=fun r i v c t=>⟨iD.say r i v c t,fun _ d hd=>.inl hd⟩
 decl:=fun r i v c t=>⟨iD.decl r i v c t,fun hl d hd=>by
  rcases List.mem_append.1 (show d∈r.ds++[_] from hd) with hd|hd
  ·exact .inl hd
  ·rw[List.mem_singleton]at hd
   subst hd;have hl':r.next+1<=r.uses.length:=hl;refine .inr ?_;show(r.uses.set r.next (r.next:Int))[((r.next:Nat):Int).toNat]? =some (r.next:Int)
   rw[show((r.next:Nat):Int).toNat=r.next from rfl,List.getElem?_set_self (by omega)]⟩
 use:=fun r i v k=>⟨iD.use r i v k,fun _ d hd=>.inl hd⟩
 owner:=fun r o=>⟨iD.owner r o,fun _ d hd=>.inl hd⟩
theorem aaa{t:aa}(hv:iJ t=true)(hc:(aR t).aO=[]){j:Nat}{dc:Dc}(hj:(aR t).ds[j]? =some dc){nm:ByteArray}(hnm:cZ nm=true)(hno:∀y∈dV t,y.text≠nm){U:Nat->Bool}(hU:∀n,U n=decide ((aR t).uses[n]? =some (j:Int))):
 iJ (dU nm U t 0)=true/\(aR (dU nm U t 0)).aO=[]/\(aR (dU nm U t 0)).uses=(aR t).uses/\(aR (dU nm U t 0)).ds.length=(aR t).ds.length/\dU dc.name U (dU nm U t 0) 0=t/\cZ dc.name=true/\uE dc.name U t 0/\∃n y,(dV t)[n]? =some y/\U n=true:=by
 obtain⟨h2,ht⟩:=Cw hv;unfold iJ at hv;rw[aaF]at hv;have hall:gJ t=true:=hv.2;have hsh:=jZ hall;obtain⟨k,x,a,e,ks⟩:=t;have hk:k=2:=h2;subst hk;obtain⟨hn1,hn2⟩:=R5 ht hc;have hst:=yG x a e ks;obtain⟨r0,hr0⟩:∃r0:RS,(⟨[],List.replicate (ah (.node 2 x a e ks)) (-1),[],[],1,0⟩:RS)=r0:=⟨_,rfl⟩
 have hr1:r0.next=1:=by rw[<- hr0]
 have hrd:r0.ds=[]:=by rw[<- hr0]
 have hrp:r0.aO=[]:=by rw[<- hr0]
 have hru:r0.uses=List.replicate (ah (.node 2 x a e ks)) (-1):=by rw[<- hr0]
 rw[hr0]at hst;obtain⟨R,hR⟩:∃R,ae (fO ks) false ks 0 ks.length [] r0=R:=⟨_,rfl⟩
 rw[hR]at hst
 have hres:aR (.node 2 x a e ks)= { R.1 with uses:=R.1.uses.map (mK R.1.ds),bQ:=R.1.bQ.map fun x=>(x.1,x.2.map (mK R.1.ds)) }:=by
  unfold aR;rw[hst]
 have IV:nS r0 R.1:=by rw[<- hR];exact eU _ _ _ _ _ _ _
 have hcl:oO r0 R.1:=by
  rw[hres]at hc;have hc':R.1.aO=[]:=hc;unfold oO;rw[hc',hrp]
 obtain⟨hnd,hlow⟩:=WJ IV hrd;have hj':R.1.ds[j]? =some dc:=by rw[hres]at hj;exact hj
 have ET:=aaP hj';obtain⟨D,hD⟩:∃D,dc.node=D:=⟨_,rfl⟩
 have hD1:1<=D:=by
  have:=hlow dc ET;rw[hr1,hD]at this;exact this
 obtain⟨x0,hx0⟩:∃x0,(((dV (.node 2 x a e ks))[D.toNat]?).map aa.text).getD dc.name=x0:=⟨_,rfl⟩
 have hT:sO D nm x0 ks 1:=Om ks 1 fun i y hy=>by
  have hy2:(dV (.node 2 x a e ks))[1+i]? =some y:=by rw[dV,Nat.add_comm,aaL];exact hy
  refine⟨hno y (aaP hy2),fun he=>?_⟩;rw[<- hx0,<- he,show(((1+i:Nat):Int)).toNat=1+i from rfl,hy2];rfl
 obtain⟨hT1,gX⟩:=Si hT
 have hnx:R.1.next<=r0.uses.length:=by
  have:=o9 (fO ks) ks false 0 ks.length [] r0;rw[hR,hr1]at this;rw[hru,List.length_replicate,ah];simpa using this
 have hfr:∀n:Nat,r0.uses[n]?≠some D:=fun n h=>by
  rw[hru]at h;have:=aaP h;rw[List.mem_replicate]at this;omega
 have hpw1:=Ca ks 1;have hpw2:=FY ks 1;have m1:((gm (dO ks 1)).map (·.1)).Nodup:=by rw[sG,uZ];exact hn1
 have m2:((gm (kK ks 1)).map (·.1)).Nodup:=by rw[sG,CK];exact hn2
 have hG:fO ks=⟨lN (gm (dO ks 1)) [],lN (gm (kK ks 1)) [],(dO ks 1).foldl (fun l y=>cO l (y.2:Int) y.1.kind) []⟩:=by unfold fO;rw[sK]
 have hent:∀(L:List (aa×Nat)),((gm L).map (·.1)).Nodup->∀y∈lN (gm L) [],∃z∈L,y=(z.1.text,(z.2:Int)):=fun L hn y hy=>by
  rw[zf _ [] hn (fun _ _ h=>by cases h),List.nil_append]at hy;unfold gm at hy;rw[List.map_map]at hy;obtain⟨z,hz,rfl⟩:=List.mem_map.1 hy;exact⟨z,hz,rfl⟩
 have hgl:qc D nm x0 (fO ks).globals:=fun y hy=>by
  rw[hG]at hy;obtain⟨z,hz,rfl⟩:=hent _ m1 y hy;exact hT1 z hz
 have hfl:qc D nm x0 (fO ks).fields:=fun y hy=>by
  rw[hG]at hy;obtain⟨z,hz,rfl⟩:=hent _ m2 y hy;exact gX z hz
 have hrun:∀V:Nat->Bool,(∀n,V n=true↔R.1.uses[n]? =some D)->pO D V ⟨[],[],[]⟩ r0 (ae (fO ks) false ks 0 ks.length [] r0).1:=fun V hV=>by
  rw[hR];exact⟨hcl,hnx,fun n _=>hfr n,fun n _ _=>hV n,fun y hy=>by cases hy⟩
 have htop:∀V:Nat->Bool,(∀n,V n=true↔R.1.uses[n]? =some D)->_:=fun V hV=>WK (U:=V) hgl hfl (Dy hnm) ks (fun k hk=>⟨hsh k hk,ht k hk⟩) r0 (hrun V hV) (fun y hy he=>by
  rw[hG]at hy;obtain⟨z,hz,rfl⟩:=hent _ m1 y hy
  exact .inr ⟨z,by rw[hr1];exact hz,he⟩) (by rw[hr1];exact hT) (by omega)
 have hdecl:∀u∈R.1.uses,u= -1\/∃d∈R.1.ds,d.node=u:=fun u hu=>by
  have h0:=htop (fun n=>decide (R.1.uses[n]? =some D)) (fun n=>by simp);have hu0:=(jy ks false 0 ks.length [] r0 (G:=fO ks) (fun u hu=>by rw[hru]at hu;exact .inl (List.mem_replicate.1 hu).2) (fun l hl=>by cases hl)).1;rw[hR]at hu0 h0;rcases hu0 u hu with h|h| ⟨y,hy,rfl⟩| ⟨y,hy,rfl⟩
  ·exact .inl h
  ·exact .inr h
  ·rw[hG]at hy
   obtain⟨z,hz,rfl⟩:=hent _ m1 y hy;exact .inr ((h0.2.2.2.1 z (by rw[hr1];exact hz)).2)
  ·rw[hG]at hy
   obtain⟨z,hz,rfl⟩:=hent _ m2 y hy;exact .inr ((h0.2.2.2.2 z (by rw[hr1];exact hz)).2)
 have hpos:∀d∈R.1.ds,0<=d.node:=fun d hd=>by
  have:=hlow d hd;rw[hr1]at this;omega
 have hUU:∀n,U n=true↔R.1.uses[n]? =some D:=fun n=>by
  rw[hU n,decide_eq_true_iff,hres];show(R.1.uses.map (mK R.1.ds))[n]? =some (j:Int)↔_;rw[List.getElem?_map]
  cases hu:R.1.uses[n]? with
  | none=>simp
  | some u=>
   simp only[Option.map_some,aaI];rcases hdecl u (aaP hu) with rfl| ⟨d,hd,rfl⟩
   ·rw[T9 hnd hpos]
    constructor
    ·intro h;omega
    ·intro h;omega
   ·obtain⟨i,hi⟩:=List.mem_iff_getElem?.1 hd
    rw[Hr hnd hi];constructor
    ·intro h
     have:i=j:=by omega
     subst this;rw[hi]at hj';cases hj'
     exact hD
    ·intro h
     have:=Hr hnd hi;rw[h,<- hD,Hr hnd hj']at this;exact this.symm
 have hmain:=htop U hUU;rw[hR,hr1]at hmain;obtain⟨g1,g2,g3,g4,g5⟩:=hmain
 have hU0:¬(U 0=true):=fun h=>by
  have h1:=(hUU 0).1 h;rw[IV.uses 0 (.inl (by omega))]at h1;exact hfr 0 h1
 have hname:dc.name=x0:=g3 (fun d hd=>by rw[hrd]at hd;cases hd) dc ET hD
 have hnm0:cZ dc.name=true:=by
  have hnmOk:rX R.1:=by
   rw[<- hR];refine lM (fO ks) ks false 0 ks.length [] r0 ?_ (fun d hd=>by rw[hrd]at hd;cases hd);have h5:(dV (.node 2 x a e ks)).all fJ=true:=hall;rw[dV,List.all_cons,aaF]at h5;exact h5.2
  exact hnmOk dc ET
 have yO:uE dc.name U (.node 2 x a e ks) 0:=by
  rw[uE,hname];exact⟨fun h=>absurd h hU0,g2⟩
 have ht':dU nm U (.node 2 x a e ks) 0= .node 2 x a e (dD nm U ks 1):=by rw[dU,if_neg hU0]
 have hglob:fO (dD nm U ks 1)=nM D nm (fO ks):=glob_rn hn1 hn2 (fun z hz=>(hT1 z hz).1) (fun z hz=>(gX z hz).1) (fun z hz=>(g4 z hz).1) (fun z hz=>(g5 z hz).1);have hcnt:ah (.node 2 x a e (dD nm U ks 1))=ah (.node 2 x a e ks):=by rw[ah,ah,Ev]
 have Ze:=yG x a e (dD nm U ks 1);rw[hcnt,hr0,hglob,sD]at Ze
 have hrr:gL D nm r0=r0:=by
  unfold gL;rw[hrd,<- hr0];rfl
 rw[hrr]at g1;rw[g1]at Ze
 have hres2:aR (.node 2 x a e (dD nm U ks 1))= { gL D nm R.1 with uses:=R.1.uses.map (mK R.1.ds),bQ:=R.1.bQ.map fun x=>(x.1,x.2.map (mK R.1.ds)) }:=by
  unfold aR;rw[hcnt,Ze]
  have:mK (R.1.ds.map (Ew D nm))=mK R.1.ds:=by
   funext u
   unfold mK;rw[SH]
  show({ gL D nm R.1 with uses:=R.1.uses.map (mK (R.1.ds.map (Ew D nm))),bQ:=R.1.bQ.map fun x=>(x.1,x.2.map (mK (R.1.ds.map (Ew D nm)))) }:RS)=_;rw[this]
 refine⟨?_,?_,?_,?_,OL _ 0 yO,hnm0,yO,?_⟩
 ·unfold iJ
  rw[aaF];exact⟨by rw[ht'];rfl,JJ hnm (Dy hnm0) _ 0 yO hall⟩
 ·rw[ht',hres2]
  rw[hres]at hc;exact hc
 ·rw[ht',hres2,hres]
 ·rw[ht',hres2,hres]
  exact List.length_map _
 ·have hself:=oH Uh (fO ks) ks false 0 ks.length [] r0
  rw[hR]at hself;have h1:=(hself.Ui hnx dc ET).resolve_left (by rw[hrd];simp);rw[hD]at h1;obtain⟨l,hl1,-,hl3⟩:=IV.ds;have h3:=hl3 dc (by rw[hl1,hrd]at ET;simpa using ET);rw[hD]at h3
  have hlt:D.toNat<(dV (.node 2 x a e ks)).length:=by
   rw[qo];rw[hru,List.length_replicate]at hnx;omega
  exact⟨D.toNat,_,aaH hlt,(hUU _).2 h1⟩
end Go.Proofs.YtoepemlnlpamlaaGreat
