/- The law NamesResolves holds where what it reads is of bulk at most 1048576: it returns true, and its argument reads as before. Part 33: Wlk2 Wlk3. -/
import Derived.Test.YtoepemlnlpamlaaGreatReso23
set_option maxRecDepth 100000
set_option maxHeartbeats 4000000
namespace Go.Proofs.YtoepemlnlpamlaaGreat
def RU(G:bf)(GW:List Dc)(Gn:Int->Prop)(mk:Int)(i:Bool)(t:ae):Prop:=
 ∀(s:aQ) (sq:List Nat) (r:RS) (q:RW) (o:Int),s≠[]->q.num=r.next->r.owner=o->lX Gn r q->oZ r.ds s sq ->
  IQ Gn mk i r (aJ G i t s r).1 q (bQ GW mk t o sq q).1/\(aJ G i t s r).1.owner=o/\oZ (aJ G i t s r).1.ds (aJ G i t s r).2 (bQ GW mk t o sq q).2
theorem QA{s s':aQ}(h:s'.length=s.length)(hs:s≠[]):s'≠[]:=fun e=>hs (List.length_eq_zero_iff.1 (by rw[<- h,e];rfl))
theorem Gd:∀{ts:List ae}{c:ae},c∈ts->au c<=aG ts
 | [],c,h=>by cases h
 | t::ts,c,h=>by
  rw[aG];rcases List.mem_cons.1 h with rfl|h
  ·omega
  ·have:=Gd h
   omega
section
variable {G:bf}{GW:List Dc}{Gn:Int->Prop}{mk:Int}
theorem UQ{k:Int}(x:ByteArray)(a e:Int)(kids:List ae)(o:Int)(s:List Nat)(q:RW)(h:k≠6/\k≠7/\k≠8/\k≠12):(bQ GW mk (.node k x a e kids) o s q).2=s:=by
 rw[bQ];try simp only
 rw[if_neg h.1,if_neg (fun h2=>h2.elim h.2.1 (fun h3=>h3.elim h.2.2.1 h.2.2.2))]
theorem Af(i:Bool)(k:Int)(after:List Nat)(hk:k≠16):∀(ts:List ae),(∀t∈ts,RU G GW Gn mk i t)->((k=5\/k=6\/k=11)\/∀t∈ts,∀o s q,(bQ GW mk t o s q).2=s) ->
 ∀(j:Nat) (s:aQ) (sq:List Nat) (r:RS) (q:RW) (o:Int),s≠[]->q.num+1=r.next->r.owner=o->lX Gn r q->oZ r.ds s sq ->
 IQ Gn mk i r (ah G i ts 0 ts.length s r).1 q (dQ GW mk k after ts j o sq q).1/\(ah G i ts 0 ts.length s r).1.owner=o/\oZ (ah G i ts 0 ts.length s r).1.ds (ah G i ts 0 ts.length s r).2 (dQ GW mk k after ts j o sq q).2
 | [],_,_,j,s,sq,r,q,o,hs,hn,ho,kJ,hsc=>by
  rw[ah,dQ];exact⟨⟨kJ,lN.refl mk i rfl rfl,hn⟩,ho,hsc⟩
 | t::ts,hT,hth,j,s,sq,r,q,o,hs,hn,ho,kJ,hsc=>by
  rw[abR,ah,dQ];try simp only
  rw[if_neg (show ¬(k=16/\j=2) from fun h=>hk h.1)];obtain⟨h1,h2,h3⟩:=hT t (by simp) s sq r { q with num:=q.num+1 } o hs hn ho (kJ.of_same rfl rfl rfl rfl rfl rfl) hsc
  have DY:(if k=5\/k=6\/k=11 then(bQ GW mk t o sq { q with num:=q.num+1 }).2 else sq)=(bQ GW mk t o sq { q with num:=q.num+1 }).2:=by
   rcases hth with h|h
   ·rw[if_pos h]
   ·split
    ·rfl
    ·rw[h t (by simp)]
  rw[DY];have hth2:(k=5\/k=6\/k=11)\/∀t∈ts,∀o s q,(bQ GW mk t o s q).2=s:=hth.imp_right fun h c hc=>h c (by simp[hc])
  have ih:=Af i k after hk ts (fun c hc=>hT c (by simp[hc])) hth2 (j+1) _ _ _ _ o (QA (vP G t i s r) hs) h1.num h2 h1.qp h3;refine⟨⟨ih.1.qp,?_,ih.1.num⟩,ih.2.1,ih.2.2⟩;have hv:lN mk i r (aJ G i t s r).1 q (bQ GW mk t o sq { q with num:=q.num+1 }).1:=⟨h1.aS.out,h1.aS.C9⟩
  exact hv.trans ih.1.aS (nK _ _ _ _ _) (fe _ _ _ _ _ _ _)
theorem rW(GW:List Dc)(q:RW)(s:List Nat)(t:ae)(o:Int):
 (t.kind=12->mV GW q s t o=(fK GW q s t 4 o).1)/\(t.kind=16->mV GW q s t o=(fK GW q s t 5 o).1)/\((t.kind=7\/t.kind=8)->mV GW q s t o=(fK GW q s t 3 o).1):=by
 refine⟨fun h=>?_,fun h=>?_,fun h=>?_⟩
 all_goals
  unfold mV;rw[if_neg (by omega),if_neg (by omega),if_neg (by omega),if_neg (by omega),if_neg (by omega),if_neg (by omega),if_neg (by omega),if_neg (fun h2=>by have:=h2.1;omega)]
 ·rw[if_neg (by omega),if_pos h]
 ·rw[if_neg (by omega),if_neg (by omega),if_pos h]
 ·rw[if_pos h]
theorem nS(GW:List Dc)(q:RW)(s:List Nat)(t:ae)(c o:Int)(h:t.kind=7\/t.kind=8\/t.kind=12\/t.kind=16):sU GW q s t=(fK GW q s t c o).2:=by
 unfold sU;rw[if_pos h];exact ZP _ _ _ _ _ _ _ _
theorem Pn(G:bf)(r:RS)(c:Int)(n:Nat)(t:ae)(s:aQ):(aD G r c n t ([]::s)).1=(aD G r c n t s).1:=by
 unfold aD;have:eP ([]::s) t.text=eP s t.text:=rfl;rw[this];split<;>rfl
theorem PH(hG:yj G GW Gn)(i:Bool):∀(m:Nat) (t:ae),au t<=m->ES t=true->RU G GW Gn mk i t
 | 0,t,h,_=>by have:=nJ t;omega
 | m+1,.node k x a e kids,h,hin=>by
  obtain⟨hk,h12,h16,hno,hks⟩:=BH hin;have hcnt:au (.node k x a e kids)=1+aG kids:=rfl;have xX:∀c∈kids,RU G GW Gn mk i c:=fun c hc=>PH hG i m c (by have:=Gd hc;omega) (R7 hks c hc)
  have hws:k≠11->∀c∈kids,∀o s q,(bQ GW mk c o s q).2=s:=fun h11 c hc o s q=>by
   have hc12:=hno h11 c hc;have hcin:=R7 hks c hc;obtain⟨kc,xc,ac,ec,kidsc⟩:=c;have:=(BH hcin).1;exact UQ _ _ _ _ _ _ _ ⟨by omega,by omega,by omega,hc12⟩
  intro s sq r q o hs hn ho kJ hsc;rw[visit_B G k x a e kids i s r hin,bQ];try simp only
  rw[if_neg (show ¬(k=3\/k=5) by omega),if_neg (show k≠6 by omega)];have hn0:(dE mk q sq).num=r.next:=by rw[qx];exact hn
  have G6:=rR kJ mk sq;have hent:=MQ r i (aj (ak s));by_cases h11:k=11
  ·rw[if_pos h11,if_neg (by omega)]
   have hu:iN G s r (aC r i (aj (ak s))) (.node k x a e kids)=aC r i (aj (ak s)):=Kw _ _ _ _ _ (by show ¬(k=20\/k=22\/k=27\/k=19\/k=9);omega);obtain⟨a1,a2,a3,a4,a5⟩:=BK hG G6 i (aj (ak s)) (.node k x a e kids) o hn0 (fun _=>hsc) (by show ¬(k=3\/k=4\/k=5\/k=7\/k=8\/k=12\/k=16);omega);rw[hu]at a1 a2 a3;obtain⟨L1,L2,L3⟩:=Af (G:=G) (GW:=GW) (Gn:=Gn) (mk:=mk) i k (sU GW (dE mk q sq) sq (.node k x a e kids)) (by omega) kids xX (.inl (.inr (.inr h11))) 0 ([]::s) sq (aC r i (aj (ak s))) (mV GW (dE mk q sq) sq (.node k x a e kids) o) o (by simp) (by rw[a4,hn0];rfl) (a2.trans ho) a1 hsc.push;exact⟨⟨L1.qp,lN.trans (lN.head rfl rfl ⟨[],by simp[aC]⟩ hn a5 (fun _=>hsc)) L1.aS hent (fe _ _ _ _ _ _ _),L1.num⟩,L2,hsc.mono (hent.trans (fe _ _ _ _ _ _ _)).grow⟩
  rw[if_neg h11];by_cases pO:k=12
  ·rw[if_pos pO,if_pos (by omega),Pn,(rW GW _ sq (.node k x a e kids) o).1 pO,nS GW _ sq (.node k x a e kids) 4 o (.inr (.inr (.inl pO)))]
   obtain⟨b1,b2,b3,b4,b5,b6,b7,b8,b9⟩:=Ja hG G6 hsc i (aj (ak s)) (c:=4) (by decide) (.node k x a e kids) hn0 ho;have yK:=MP G r i (aj (ak s)) 4 (.node k x a e kids) s;obtain⟨L1,L2,L3⟩:=Af (G:=G) (GW:=GW) (Gn:=Gn) (mk:=mk) i k (fK GW (dE mk q sq) sq (.node k x a e kids) 4 o).2 (by omega) kids xX (.inr (hws h11)) 0 s sq _ _ o hs (by rw[b5,b3,hn0]) (b2.trans ho) b1 (hsc.mono yK.grow);exact⟨⟨L1.qp,lN.trans (lN.head b3 b4 yK.grow hn b6 (fun _=>hsc)) L1.aS yK (fe _ _ _ _ _ _ _),L1.num⟩,L2,(b8 hs).mono (fe _ _ _ _ _ _ _).grow⟩
  rw[if_neg pO,if_neg (show ¬(k=7\/k=8\/k=12) by omega)];by_cases pM:k=16
  ·rw[if_pos pM,Pn,(rW GW _ sq (.node k x a e kids) o).2.1 pM,nS GW _ sq (.node k x a e kids) 5 o (.inr (.inr (.inr pM)))]
   obtain⟨b1,b2,b3,b4,b5,b6,b7,b8,b9⟩:=Ja hG G6 hsc i (aj (ak s)) (c:=5) (by decide) (.node k x a e kids) hn0 ho;have yK:=MP G r i (aj (ak s)) 5 (.node k x a e kids) s;have hl:=h16 pM;obtain⟨U,hU⟩:∃U,(aD G (aC r i (aj (ak s))) 5 r.next (.node k x a e kids) s).1=U:=⟨_,rfl⟩
   obtain⟨Z,hZ⟩:∃Z,fK GW (dE mk q sq) sq (.node k x a e kids) 5 o=Z:=⟨_,rfl⟩
   obtain⟨V,hV⟩:∃V,wF G (.node k x a e kids) s r.next=V:=⟨_,rfl⟩
   have hww:=hws h11;rw[hU,hZ]at b1 b7;rw[hZ]at b5 b6;rw[hU]at b2 b3 b4 yK;rw[hV]at b7;rw[hU,hZ,hV];clear hU hZ hV b8 b9 hws
   match kids,hl,xX,hww with
   | [b,c,d],_,xX,hww=>
    have hA:ah G i [b,c,d] 0 2 s U=aJ G i c (aJ G i b s U).2 (aJ G i b s U).1:=by simp only[ah]
    have hB:∀S R,ah G i [b,c,d] 2 1 S R=aJ G i d S R:=fun S R=>by simp only[ah]
    obtain⟨x1,x2,x3⟩:=xX b (by simp) s sq U { Z.1 with num:=Z.1.num+1 } o hs (by show Z.1.num+1=_;rw[b5,b3,hn0]) (b2.trans ho) (b1.of_same rfl rfl rfl rfl rfl rfl) (hsc.mono yK.grow);rw[hww b (by simp)]at x3
    have hW:dQ GW mk k Z.2 [b,c,d] 0 o sq Z.1=((bQ GW mk d o Z.2 { (bQ GW mk c o sq { (bQ GW mk b o sq { Z.1 with num:=Z.1.num+1 }).1 with num:=(bQ GW mk b o sq { Z.1 with num:=Z.1.num+1 }).1.num+1 }).1 with num:=(bQ GW mk c o sq { (bQ GW mk b o sq { Z.1 with num:=Z.1.num+1 }).1 with num:=(bQ GW mk b o sq { Z.1 with num:=Z.1.num+1 }).1.num+1 }).1.num+1 }).1,Z.2):=by
     rw[dQ,dQ,dQ,dQ];simp only[pM];simp
    rw[hA,hB,hW];obtain⟨B,hB1⟩:∃B,aJ G i b s U=B:=⟨_,rfl⟩
    obtain⟨wB,Yu⟩:∃wB,bQ GW mk b o sq { Z.1 with num:=Z.1.num+1 }=wB:=⟨_,rfl⟩
    have hsB:B.2≠[]:=by rw[<- hB1];exact QA (vP G b i s U) hs
    have Iz:qc U B.1:=by rw[<- hB1];exact nK _ _ _ _ _
    rw[hB1,Yu]at x1;rw[hB1]at x2 x3;rw[hB1,Yu];obtain⟨y1,y2,y3⟩:=xX c (by simp) B.2 sq B.1 { wB.1 with num:=wB.1.num+1 } o hsB x1.num x2 (x1.qp.of_same rfl rfl rfl rfl rfl rfl) x3;obtain⟨C,N8⟩:∃C,aJ G i c B.2 B.1=C:=⟨_,rfl⟩
    obtain⟨wC,Yt⟩:∃wC,bQ GW mk c o sq { wB.1 with num:=wB.1.num+1 }=wC:=⟨_,rfl⟩
    have NP:qc B.1 C.1:=by rw[<- N8];exact nK _ _ _ _ _
    rw[N8,Yt]at y1;rw[N8]at y2;rw[N8,Yt];obtain⟨z1,z2,z3⟩:=xX d (by simp) (V::s) Z.2 C.1 { wC.1 with num:=wC.1.num+1 } o (by simp) y1.num y2 (y1.qp.of_same rfl rfl rfl rfl rfl rfl) (b7.mono (Iz.trans NP).grow);have Iy:=nK G d i (V::s) C.1;have v0:lN mk i r U q Z.1:=lN.head b3 b4 yK.grow hn b6 (fun _=>hsc);have v1:lN mk i U B.1 Z.1 wB.1:=⟨x1.aS.out,x1.aS.C9⟩
    have v2:lN mk i B.1 C.1 wB.1 wC.1:=⟨y1.aS.out,y1.aS.C9⟩
    have v3:lN mk i C.1 (aJ G i d (V::s) C.1).1 wC.1 (bQ GW mk d o Z.2 { wC.1 with num:=wC.1.num+1 }).1:=⟨z1.aS.out,z1.aS.C9⟩
    exact⟨⟨z1.qp,((v0.trans v1 yK Iz).trans v2 (yK.trans Iz) NP).trans v3 ((yK.trans Iz).trans NP) Iy,z1.num⟩,z2,hsc.mono (((yK.trans Iz).trans NP).trans Iy).grow⟩
  rw[if_neg pM];obtain⟨a1,a2,a3,a4,a5⟩:=BK hG G6 i (aj (ak s)) (.node k x a e kids) o hn0 (fun _=>hsc) (by show ¬(k=3\/k=4\/k=5\/k=7\/k=8\/k=12\/k=16);omega);have hru:=PZ G s r i (aj (ak s)) (.node k x a e kids);obtain⟨L1,L2,L3⟩:=Af (G:=G) (GW:=GW) (Gn:=Gn) (mk:=mk) i k (sU GW (dE mk q sq) sq (.node k x a e kids)) pM kids xX (.inr (hws h11)) 0 s sq _ _ o hs (by rw[a4,hn0,Bu]) (a2.trans ho) a1 (hsc.mono hru.grow);exact⟨⟨L1.qp,lN.trans (lN.head (Bu _ _ _ _ _ _) a3 hru.grow hn a5 (fun _=>hsc)) L1.aS hru (fe _ _ _ _ _ _ _),L1.num⟩,L2,hsc.mono (hru.trans (fe _ _ _ _ _ _ _)).grow⟩
theorem aal(hG:yj G GW Gn){t:ae}(hl:vL t)(s:aQ)(sq:List Nat)(r:RS)(q:RW)(o:Int)(hn:q.num=r.next)(kJ:lX Gn r q):
 IQ Gn mk false r (aJ G false t s r).1 q (bQ GW mk t o sq q).1/\(aJ G false t s r).1.owner=r.owner/\(aJ G false t s r).1.aS=r.aS:=by
 obtain⟨h0,h1,h2⟩:=hl;obtain⟨k,x,a,e,kids⟩:=t;have h0':kids=[]:=h0;have h1':k<2\/8<k:=h1;have h2':k<11:=h2;subst h0';have hn0:(dE mk q sq).num=r.next:=by rw[qx];exact hn
 obtain⟨a1,a2,a3,a4,a5⟩:=BK (s:=s) (sq:=sq) hG (rR kJ mk sq) false (aj (ak s)) (.node k x a e []) o hn0 (fun h=>by have:k=20:=h;omega) (by show ¬(k=3\/k=4\/k=5\/k=7\/k=8\/k=12\/k=16);omega)
 have hv:aJ G false (.node k x a e []) s r=(iN G s r (aC r false (aj (ak s))) (.node k x a e []),s):=by
  rw[dh,if_neg (by omega),if_neg (by omega),if_neg (by omega),if_neg (by omega),if_neg (by omega),if_neg (by omega),if_neg (by omega),ah]
 have hw:(bQ GW mk (.node k x a e []) o sq q).1=mV GW (dE mk q sq) sq (.node k x a e []) o:=by
  rw[bQ,dQ]
 rw[hv,hw];refine⟨⟨a1,lN.head (s:=s) (sq:=sq) (Bu _ _ _ _ _ _) a3 (PZ _ _ _ _ _ _).grow hn a5 (fun h=>by cases h),by rw[a4,hn0,Bu]⟩,a2,a3⟩
theorem DU(hG:yj G GW Gn)(k:Int)(after:List Nat):∀(ts:List ae),(∀t∈ts,vL t)->∀(j:Nat) (s:aQ) (sq:List Nat) (r:RS) (q:RW) (o:Int),q.num+1=r.next->lX Gn r q ->
 IQ Gn mk false r (ah G false ts 0 ts.length s r).1 q (dQ GW mk k after ts j o sq q).1/\(ah G false ts 0 ts.length s r).1.owner=r.owner/\(ah G false ts 0 ts.length s r).1.aS=r.aS
 | [],_,j,s,sq,r,q,o,hn,kJ=>by
  rw[ah,dQ];exact⟨⟨kJ,lN.refl mk false rfl rfl,hn⟩,rfl,rfl⟩
 | t::ts,hT,j,s,sq,r,q,o,hn,kJ=>by
  rw[abR,ah,dQ];try simp only
  obtain⟨h1,h2,h3⟩:=aal (mk:=mk) hG (hT t (by simp)) s (if k=16/\j=2 then after else sq) r { q with num:=q.num+1 } o hn (kJ.of_same rfl rfl rfl rfl rfl rfl);obtain⟨k1,k2,k3⟩:=DU hG k after ts (fun c hc=>hT c (by simp[hc])) (j+1) (aJ G false t s r).2 (if k=5\/k=6\/k=11 then(bQ GW mk t o (if k=16/\j=2 then after else sq) { q with num:=q.num+1 }).2 else if k=16/\j=2 then after else sq) _ _ o h1.num h1.qp;refine⟨⟨k1.qp,?_,k1.num⟩,k2.trans h2,k3.trans h3⟩;have hv:lN mk false r (aJ G false t s r).1 q (bQ GW mk t o (if k=16/\j=2 then after else sq) { q with num:=q.num+1 }).1:=⟨h1.aS.out,h1.aS.C9⟩
  exact hv.trans k1.aS (nK _ _ _ _ _) (fe _ _ _ _ _ _ _)
theorem prm_sim(hG:yj G GW Gn){p:ae}(hk:p.kind=7\/p.kind=8)(hq:∀c∈p.kids,vL c):RU G GW Gn mk false p:=by
 intro s sq r q o hs hn ho kJ hsc;obtain⟨k,x,a,e,kids⟩:=p;have hk':k=7\/k=8:=hk;have hq':∀c∈kids,vL c:=hq;have hn0:(dE mk q sq).num=r.next:=by rw[qx];exact hn
 have G6:=rR kJ mk sq;rw[dh,if_neg (by omega),if_neg (by omega),if_neg (by omega),if_pos hk',bQ];try simp only
 rw[if_neg (show ¬(k=3\/k=5) by omega),if_neg (show k≠6 by omega),if_pos (show k=7\/k=8\/k=12 by omega),(rW GW _ sq (.node k x a e kids) o).2.2 hk',nS GW _ sq (.node k x a e kids) 3 o (hk'.imp_right .inl)];obtain⟨b1,b2,b3,b4,b5,b6,b7,b8,b9⟩:=Ja hG G6 hsc false (aj (ak s)) (c:=3) (by decide) (.node k x a e kids) hn0 ho;have yK:=MP G r false (aj (ak s)) 3 (.node k x a e kids) s;obtain⟨L1,L2,L3⟩:=DU (mk:=mk) hG k (fK GW (dE mk q sq) sq (.node k x a e kids) 3 o).2 kids hq' 0 (aD G (aC r false (aj (ak s))) 3 r.next (.node k x a e kids) s).2 sq _ _ o (by rw[b5,b3,hn0]) b1;have hlf:=Lh hq';refine⟨⟨L1.qp,lN.trans (lN.head (s:=s) (sq:=sq) b3 b4 yK.grow hn b6 (fun h=>by cases h)) L1.aS yK (fe _ _ _ _ _ _ _),L1.num⟩,(L2.trans b2).trans ho,?_⟩;rw[jM G kids false 0 kids.length _ _ hlf.1 hlf.2];exact(b9 hs).mono (fe _ _ _ _ _ _ _).grow
end
theorem BG{k:Int}{x:ByteArray}{a e:Int}{kids:List ae}(h:Dn (.node k x a e kids)=true):(k≠2/\k≠3/\k≠4/\k≠5)/\lV kids=true:=by
 rw[Dn]at h;simp only[abG,decide_eq_true_eq]at h;exact⟨h.1.1.1,h.2⟩
mutual
theorem Fa(G:bf):∀(t:ae) (s:aQ) (r:RS),Dn t=true->(aJ G false t s r).1.aS=r.aS
 | .node k x a e kids,s,r,h=>by
  obtain⟨⟨h2,h3,h4,h5⟩,hks⟩:=BG h
  have hv:∀c s',(aD G (aC r false (aj (ak s))) c r.next (.node k x a e kids) s').1.aS=r.aS:=fun c s'=>by
   unfold aD;split<;>rfl
  have hu:(iN G s r (aC r false (aj (ak s))) (.node k x a e kids)).aS=r.aS:=by
   have hq:∀o,(gT (aC r false (aj (ak s))) r.next (.node k x a e kids) o).aS=r.aS:=fun o=>by cases o<;>rfl
   unfold iN;split
   ·exact hq _
   split
   ·exact hq _
   split
   ·exact hq _
   split
   ·exact hq _
   split
   ·exact hq _
   ·rfl
  rw[dh,if_neg h3,if_neg h4,if_neg h5];split
  ·exact(qm G kids 0 _ _ _ hks).trans (hv _ _)
  split
  ·exact qm G kids 0 _ _ _ hks
  split
  ·exact(qm G kids 0 _ _ _ hks).trans (hv _ _)
  split
  ·exact(qm G kids 2 _ _ _ hks).trans ((qm G kids 0 _ _ _ hks).trans (hv _ _))
  ·exact(qm G kids 0 _ _ _ hks).trans hu
theorem qm(G:bf):∀(ts:List ae) (f n:Nat) (s:aQ) (r:RS),lV ts=true->(ah G false ts f n s r).1.aS=r.aS
 | [],_,_,_,r,_=>by rw[ah]
 | t::ts,f+1,n,s,r,h=>by
  rw[lV,abG]at h;rw[ah];exact qm G ts f n s r h.2
 | t::ts,0,0,s,r,_=>by rw[ah]
 | t::ts,0,n+1,s,r,h=>by
  rw[lV,abG]at h;rw[ah];exact(qm G ts 0 n _ _ h.2).trans (Fa G t s r h.1)
end
theorem JF(G:bf)(t:ae)(i:Bool)(s:aQ)(r:RS)(h:Dn t=true):(aJ G i t s r).1.next=r.next+au t:=by
 obtain⟨⟨p,d,hg⟩,-⟩:=N9 (xG.refl G) t i s s r r h rfl;exact hg.n1
section
variable {G:bf}{GW:List Dc}{Gn:Int->Prop}{mk:Int}
theorem F6(hG:yj G GW Gn){r:RS}{q:RW}(kJ:lX Gn r q){c:Int}(hc:c=0\/c=1\/c=2)(i:Bool)(v:List Int)(t:ae)(hn:q.num=r.next)(h1:1<=r.next){o:Int}(ho:(if c=0\/c=2 then -1 else r.owner)=o):
 lX Gn (aU (aC r i v) c r.next t (decide ((aT (if c=1 then G.fields else G.globals) t.text).getD 0≠(r.next:Int)))) (fG GW q t c o)/\(fG GW q t c o).num=q.num/\(fG GW q t c o).at_=q.at_:=by
 have hlay:(mW GW (decide (c=1)) t.text).map Dc.node=aT (if c=1 then G.fields else G.globals) t.text:=by
  rcases hc with rfl|rfl|rfl
  ·exact hG.nodeg _
  ·exact hG.nodef _
  ·exact hG.nodeg _
 have hE:=Hd kJ i v;unfold fG;rw[hlay,hn];by_cases hj:aT (if c=1 then G.fields else G.globals) t.text=some (r.next:Int)
 ·rw[if_pos hj,hj]
  have hd:decide ((some (r.next:Int)).getD 0≠(r.next:Int))=false:=by simp
  rw[hd];exact⟨hE.decl c t hn (by exact ho),hn,rfl⟩
 ·rw[if_neg hj]
  have hd:decide ((aT (if c=1 then G.fields else G.globals) t.text).getD 0≠(r.next:Int))=true:=by
   rw[decide_eq_true_eq];intro h
   cases hl:aT (if c=1 then G.fields else G.globals) t.text with
   | none=>
    rw[hl]at h;have:(0:Int)=(r.next:Int):=h;omega
   | some j=>
    rw[hl]at h hj;have:j=(r.next:Int):=h;rw[this]at hj;exact hj rfl
  rw[hd];exact⟨hE.say 9 r.next t,hn,rfl⟩
theorem Cy(r:RS)(c:Int)(n:Nat)(t:ae)(b:Bool):(aU r c n t b).aS=r.aS/\(aU r c n t b).owner=r.owner:=by cases b<;>exact⟨rfl,rfl⟩
theorem Cz(r:RS)(i:Bool)(v:List Int)(c:Int)(t:ae)(b:Bool):qc r (aU (aC r i v) c r.next t b):=rO.declare r i v c t b
theorem LX(hG:yj G GW Gn)(after:List Nat):∀(fs:List ae),(∀f∈fs,f.kind=4/\∀c∈f.kids,vL c)->∀(j:Nat) (s:aQ) (sq:List Nat) (r:RS) (q:RW) (o:Int),1<=r.next->q.num+1=r.next->r.owner=o->lX Gn r q ->
 IQ Gn mk false r (ah G false fs 0 fs.length s r).1 q (dQ GW mk 3 after fs j o sq q).1/\(ah G false fs 0 fs.length s r).1.aS=r.aS
 | [],_,j,s,sq,r,q,o,_,hn,_,kJ=>by
  rw[ah,dQ];exact⟨⟨kJ,lN.refl mk false rfl rfl,hn⟩,rfl⟩
 | f::fs,hf,j,s,sq,r,q,o,h1,hn,ho,kJ=>by
  rw[abR,ah,dQ];try simp only
  rw[if_neg (show ¬((3:Int)=16/\j=2) from fun h=>absurd h.1 (by decide)),if_neg (show ¬((3:Int)=5\/(3:Int)=6\/(3:Int)=11) by decide)];obtain⟨hk,hl⟩:=hf f (by simp);obtain⟨k,x,a,e,kids⟩:=f;have hk':k=4:=hk;subst hk';have hl':∀c∈kids,vL c:=hl;have O3:lX Gn r { q with num:=q.num+1 }:=kJ.of_same rfl rfl rfl rfl rfl rfl;have hn0:(dE mk { q with num:=q.num+1 } sq).num=r.next:=by rw[qx];exact hn
  have hw:(bQ GW mk (.node 4 x a e kids) o sq { q with num:=q.num+1 }).1=(dQ GW mk 4 sq kids 0 o sq (fG GW (dE mk { q with num:=q.num+1 } sq) (.node 4 x a e kids) 1 o)).1:=by
   rw[bQ];rfl
  obtain⟨a1,a2,a3⟩:=F6 hG (rR O3 mk sq) (c:=1) (.inr (.inl rfl)) false (aj (ak s)) (.node 4 x a e kids) hn0 h1 (o:=o) (by rw[if_neg (by decide)];exact ho)
  have hv:aJ G false (.node 4 x a e kids) s r=ah G false kids 0 kids.length s (aU (aC r false (aj (ak s))) 1 r.next (.node 4 x a e kids) (decide ((aT G.fields x).getD 0≠(r.next:Int)))):=by
   rw[dh,if_neg (by decide),if_pos rfl]
  have LK:=Cz r false (aj (ak s)) 1 (.node 4 x a e kids) (decide ((aT G.fields x).getD 0≠(r.next:Int)));have hDn:(aU (aC r false (aj (ak s))) 1 r.next (.node 4 x a e kids) (decide ((aT G.fields x).getD 0≠(r.next:Int)))).next=r.next+1:=by rw[pU];rfl
  have F5:=Cy (aC r false (aj (ak s))) 1 r.next (.node 4 x a e kids) (decide ((aT G.fields x).getD 0≠(r.next:Int)));obtain⟨D,hD⟩:∃D,aU (aC r false (aj (ak s))) 1 r.next (.node 4 x a e kids) (decide ((aT G.fields x).getD 0≠(r.next:Int)))=D:=⟨_,rfl⟩
  have a1':lX Gn D (fG GW (dE mk { q with num:=q.num+1 } sq) (.node 4 x a e kids) 1 o):=by rw[<- hD];exact a1
  rw[hD]at hv LK hDn F5;obtain⟨L1,L2,L3⟩:=DU (mk:=mk) hG 4 sq kids hl' 0 s sq D _ o (by rw[a2,hn0,hDn]) a1';have Yy:=fe G kids false 0 kids.length s D
  have hk1:IQ Gn mk false r (aJ G false (.node 4 x a e kids) s r).1 q (bQ GW mk (.node 4 x a e kids) o sq { q with num:=q.num+1 }).1:=by
   rw[hv,hw];have v0:lN mk false r D { q with num:=q.num+1 } (fG GW (dE mk { q with num:=q.num+1 } sq) (.node 4 x a e kids) 1 o):=lN.head (s:=s) (sq:=sq) hDn F5.1 LK.grow hn a3 (fun h=>by cases h);have v1:lN mk false r D q (fG GW (dE mk { q with num:=q.num+1 } sq) (.node 4 x a e kids) 1 o):=⟨v0.out,v0.C9⟩
   exact⟨L1.qp,v1.trans L1.aS LK Yy,L1.num⟩
  have hown:(aJ G false (.node 4 x a e kids) s r).1.owner=o:=by rw[hv,L2,F5.2];exact ho
  have xV:(aJ G false (.node 4 x a e kids) s r).1.aS=r.aS:=by rw[hv,L3,F5.1];rfl
  have hrf:=nK G (.node 4 x a e kids) false s r;obtain⟨k1,k2⟩:=LX hG after fs (fun c hc=>hf c (by simp[hc])) (j+1) (aJ G false (.node 4 x a e kids) s r).2 sq _ _ o (abF h1 hrf.next) hk1.num hown hk1.qp;exact⟨⟨k1.qp,hk1.aS.trans k1.aS hrf (fe _ _ _ _ _ _ _),k1.num⟩,k2.trans xV⟩
theorem rec_res(hG:yj G GW Gn){x:ByteArray}{a e:Int}{kids:List ae}(hf:∀f∈kids,f.kind=4/\∀c∈f.kids,vL c)(s:aQ)(sq:List Nat)(r:RS)(q:RW)(o:Int)(h1:1<=r.next)(hn:q.num=r.next)(kJ:lX Gn r q):
 IQ Gn mk false r (aJ G false (.node 3 x a e kids) s r).1 q (bQ GW mk (.node 3 x a e kids) o sq q).1/\(aJ G false (.node 3 x a e kids) s r).1.aS=r.aS:=by
 have hn0:(dE mk q sq).num=r.next:=by rw[qx];exact hn
 have hw:(bQ GW mk (.node 3 x a e kids) o sq q).1=(dQ GW mk 3 sq kids 0 (q.num:Int) sq (fG GW (dE mk q sq) (.node 3 x a e kids) 0 (-1))).1:=by
  rw[bQ];rfl
 obtain⟨a1,a2,a3⟩:=F6 hG (rR kJ mk sq) (c:=0) (.inl rfl) false (aj (ak s)) (.node 3 x a e kids) hn0 h1 (o:=-1) (by rw[if_pos (.inl rfl)]);have LK:=Cz r false (aj (ak s)) 0 (.node 3 x a e kids) (decide ((aT G.globals x).getD 0≠(r.next:Int)));have hDn:(aU (aC r false (aj (ak s))) 0 r.next (.node 3 x a e kids) (decide ((aT G.globals x).getD 0≠(r.next:Int)))).next=r.next+1:=by rw[pU];rfl
 have F5:=Cy (aC r false (aj (ak s))) 0 r.next (.node 3 x a e kids) (decide ((aT G.globals x).getD 0≠(r.next:Int)))
 have hv:aJ G false (.node 3 x a e kids) s r=ah G false kids 0 kids.length s { aU (aC r false (aj (ak s))) 0 r.next (.node 3 x a e kids) (decide ((aT G.globals x).getD 0≠(r.next:Int))) with owner:=(r.next:Int) }:=by
  rw[dh,if_pos rfl]
 obtain⟨D,hD⟩:∃D,aU (aC r false (aj (ak s))) 0 r.next (.node 3 x a e kids) (decide ((aT G.globals x).getD 0≠(r.next:Int)))=D:=⟨_,rfl⟩
 have a1':lX Gn D (fG GW (dE mk q sq) (.node 3 x a e kids) 0 (-1)):=by rw[<- hD];exact a1
 rw[hD]at hv LK hDn F5;have Iy:qc r ({ D with owner:=(r.next:Int) }:RS):=LK.trans (rO.owner _ _);obtain⟨L1,L2⟩:=LX (mk:=mk) hG sq kids hf 0 s sq ({ D with owner:=(r.next:Int) }:RS) _ (q.num:Int) (by show 1<=D.next;omega) (by show _=D.next;rw[a2,hn0,hDn]) (by show(r.next:Int)=_;rw[hn]) (a1'.of_same (r':={ D with owner:=(r.next:Int) }) rfl rfl rfl rfl rfl rfl);rw[hv,hw];refine⟨⟨L1.qp,lN.trans (lN.head (s:=s) (sq:=sq) (u:={ D with owner:=(r.next:Int) }) hDn F5.1 Iy.grow hn a3 (fun h=>by cases h)) L1.aS Iy (fe _ _ _ _ _ _ _),L1.num⟩,?_⟩;rw[L2];show D.aS=r.aS;rw[F5.1];rfl
theorem aab(hG:yj G GW Gn){b:ae}(hb:b.kind=6)(hp:∀p∈b.kids,(p.kind=7\/p.kind=8)/\∀q∈p.kids,vL q):RU G GW Gn mk false b:=by
 intro s sq r q o hs hn ho kJ hsc;obtain⟨k,x,a,e,kids⟩:=b;have hk:k=6:=hb;subst hk;have hn0:(dE mk q sq).num=r.next:=by rw[qx];exact hn
 have hu:iN G s r (aC r false (aj (ak s))) (.node 6 x a e kids)=aC r false (aj (ak s)):=Kw _ _ _ _ _ (by show ¬((6:Int)=20\/(6:Int)=22\/(6:Int)=27\/(6:Int)=19\/(6:Int)=9);decide);obtain⟨a1,a2,a3,a4,a5⟩:=BK hG (rR kJ mk sq) false (aj (ak s)) (.node 6 x a e kids) o hn0 (fun _=>hsc) (by show ¬((6:Int)=3\/(6:Int)=4\/(6:Int)=5\/(6:Int)=7\/(6:Int)=8\/(6:Int)=12\/(6:Int)=16);decide);rw[dh,if_neg (by decide),if_neg (by decide),if_neg (by decide),if_neg (by decide),if_neg (by decide),if_neg (by decide),if_neg (by decide),bQ];try simp only
 rw[if_neg (show ¬((6:Int)=3\/(6:Int)=5) by decide),if_pos trivial];rw[hu]at a1 a2 a3;rw[hu];obtain⟨L1,L2,L3⟩:=Af (G:=G) (GW:=GW) (Gn:=Gn) (mk:=mk) false 6 (sU GW (dE mk q sq) sq (.node 6 x a e kids)) (by decide) kids (fun p hpm=>prm_sim hG (hp p hpm).1 (hp p hpm).2) (.inl (.inr (.inl rfl))) 0 s sq (aC r false (aj (ak s))) _ o hs (by rw[a4,hn0];rfl) (a2.trans ho) a1 hsc;have hent:=MQ r false (aj (ak s));exact⟨⟨L1.qp,lN.trans (lN.head (s:=s) (sq:=sq) rfl rfl ⟨[],by simp[aC]⟩ hn a5 (fun h=>by cases h)) L1.aS hent (fe _ _ _ _ _ _ _),L1.num⟩,L2,L3⟩
theorem aaa(hG:yj G GW Gn){x:ByteArray}{a e:Int}{b c d:ae}(hsh:fJ (.node 5 x a e [b,c,d])=true)(hin:lV [b,c,d]=true)(s:aQ)(r:RS)(q:RW)(o:Int)(h1:1<=r.next)(hn:q.num=r.next)(kJ:lX Gn r q):
 IQ Gn mk false r (aJ G false (.node 5 x a e [b,c,d]) s r).1 q (bQ GW mk (.node 5 x a e [b,c,d]) o [] q).1 /\
 ∀m:Nat,r.next<=m->m<(aJ G false (.node 5 x a e [b,c,d]) s r).1.next->(r.next+1+au b+au c<=m->∃s' sq',bG (aJ G false (.node 5 x a e [b,c,d]) s r).1.aS (m:Int)=some (aj (ak s'))/\oZ (aJ G false (.node 5 x a e [b,c,d]) s r).1.ds s' sq'/\(mk=(m:Int)->(bQ GW mk (.node 5 x a e [b,c,d]) o [] q).1.at_=sq')) /\
  (m<r.next+1+au b+au c->bG (aJ G false (.node 5 x a e [b,c,d]) s r).1.aS (m:Int)=bG r.aS (m:Int)):=by
 obtain⟨b',c',d',hl,hb6,hps,hlc,hd11,hind⟩:=K4 hsh;simp only[List.cons.injEq,and_true]at hl;obtain⟨rfl,rfl,rfl⟩:=hl;simp only[lV,abG,and_true]at hin;obtain⟨hib,hic,hid⟩:=hin;have hn0:(dE mk q []).num=r.next:=by rw[qx];exact hn
 obtain⟨a1,a2,a3⟩:=F6 hG (rR kJ mk []) (c:=2) (.inr (.inr rfl)) false (aj (ak s)) (.node 5 x a e [b,c,d]) hn0 h1 (o:=-1) (by rw[if_pos (.inr rfl)]);have LK:=Cz r false (aj (ak s)) 2 (.node 5 x a e [b,c,d]) (decide ((aT G.globals x).getD 0≠(r.next:Int)));have hDn:(aU (aC r false (aj (ak s))) 2 r.next (.node 5 x a e [b,c,d]) (decide ((aT G.globals x).getD 0≠(r.next:Int)))).next=r.next+1:=by rw[pU];rfl
 have F5:=Cy (aC r false (aj (ak s))) 2 r.next (.node 5 x a e [b,c,d]) (decide ((aT G.globals x).getD 0≠(r.next:Int)));rw[dh,if_neg (by decide),if_neg (by decide),if_pos rfl];obtain⟨D0,hD0⟩:∃D0,aU (aC r false (aj (ak s))) 2 r.next (.node 5 x a e [b,c,d]) (decide ((aT G.globals x).getD 0≠(r.next:Int)))=D0:=⟨_,rfl⟩
 have a1':lX Gn D0 (fG GW (dE mk q []) (.node 5 x a e [b,c,d]) 2 (-1)):=by rw[<- hD0];exact a1
 rw[hD0]at LK hDn F5⊢;obtain⟨D,hD⟩:∃D:RS,({ D0 with owner:=(r.next:Int) }:RS)=D:=⟨_,rfl⟩
 have Iy:qc r D:=by rw[<- hD];exact LK.trans (rO.owner _ _)
 have hDnx:D.next=r.next+1:=by rw[<- hD];exact hDn
 have hDvs:D.aS=r.aS:=by rw[<- hD];exact F5.1
 have hDo:D.owner=(q.num:Int):=by rw[<- hD,hn]
 obtain⟨H,hH⟩:∃H,fG GW (dE mk q []) (.node 5 x a e [b,c,d]) 2 (-1)=H:=⟨_,rfl⟩
 rw[hH]at a1' a2 a3;have a1D:lX Gn D H:=by rw[<- hD];exact a1'.of_same rfl rfl rfl rfl rfl rfl
 rw[hD]
 have hw:(bQ GW mk (.node 5 x a e [b,c,d]) o [] q).1=(bQ GW mk d (q.num:Int) (bQ GW mk c (q.num:Int) (bQ GW mk b (q.num:Int) [] { H with num:=H.num+1 }).2 { (bQ GW mk b (q.num:Int) [] { H with num:=H.num+1 }).1 with num:=(bQ GW mk b (q.num:Int) [] { H with num:=H.num+1 }).1.num+1 }).2
  { (bQ GW mk c (q.num:Int) (bQ GW mk b (q.num:Int) [] { H with num:=H.num+1 }).2 { (bQ GW mk b (q.num:Int) [] { H with num:=H.num+1 }).1 with num:=(bQ GW mk b (q.num:Int) [] { H with num:=H.num+1 }).1.num+1 }).1 with num:=(bQ GW mk c (q.num:Int) (bQ GW mk b (q.num:Int) [] { H with num:=H.num+1 }).2 { (bQ GW mk b (q.num:Int) [] { H with num:=H.num+1 }).1 with num:=(bQ GW mk b (q.num:Int) [] { H with num:=H.num+1 }).1.num+1 }).1.num+1 }).1:=by
  rw[bQ,<- hH];simp only[dQ];rfl
 rw[hw];have hA:ah G false [b,c,d] 0 2 [[]] D=aJ G false c (aJ G false b [[]] D).2 (aJ G false b [[]] D).1:=by simp only[ah]
 have hB:∀S R,ah G true [b,c,d] 2 1 S R=aJ G true d S R:=fun S R=>by simp only[ah]
 rw[hA,hB];obtain⟨x1,x2,x3⟩:=aab (mk:=mk) hG hb6 hps [[]] [] D { H with num:=H.num+1 } (q.num:Int) (by simp) (by show H.num+1=_;rw[a2,hn0,hDnx]) hDo (a1D.of_same rfl rfl rfl rfl rfl rfl) (oZ.nil _);have hbn:=JF G b false [[]] D hib;have hbv:=Fa G b [[]] D hib;have hbs:=QA (vP G b false [[]] D) (by simp);have Iz:qc D (aJ G false b [[]] D).1:=nK _ _ _ _ _;obtain⟨B,hB1⟩:∃B,aJ G false b [[]] D=B:=⟨_,rfl⟩
 obtain⟨wB,Yu⟩:∃wB,bQ GW mk b (q.num:Int) [] { H with num:=H.num+1 }=wB:=⟨_,rfl⟩
 rw[hB1,Yu]at x1 x3;rw[hB1]at x2 hbn hbv hbs Iz;rw[hB1,Yu];obtain⟨y1,y2,y3⟩:=PH (mk:=mk) hG false _ c (abE _) (QD hlc) B.2 wB.2 B.1 { wB.1 with num:=wB.1.num+1 } (q.num:Int) hbs x1.num x2 (x1.qp.of_same rfl rfl rfl rfl rfl rfl) x3;have hcn:=JF G c false B.2 B.1 hic;have hcv:=Fa G c B.2 B.1 hic;have NP:qc B.1 (aJ G false c B.2 B.1).1:=nK _ _ _ _ _;obtain⟨C,N8⟩:∃C,aJ G false c B.2 B.1=C:=⟨_,rfl⟩
 obtain⟨wC,Yt⟩:∃wC,bQ GW mk c (q.num:Int) wB.2 { wB.1 with num:=wB.1.num+1 }=wC:=⟨_,rfl⟩
 rw[N8,Yt]at y1 y3;rw[N8]at y2 hcn hcv NP;rw[N8,Yt];obtain⟨z1,z2,z3⟩:=PH (mk:=mk) hG true _ d (abE _) hind ([]::C.2) wC.2 C.1 { wC.1 with num:=wC.1.num+1 } (q.num:Int) (by simp) y1.num y2 (y1.qp.of_same rfl rfl rfl rfl rfl rfl) y3.push;have hrE:=nK G d true ([]::C.2) C.1;have v0:lN mk false r D q H:=lN.head (s:=s) (sq:=[]) hDnx (by rw[hDvs];rfl) Iy.grow hn a3 (fun h=>by cases h);have v1:lN mk false D B.1 H wB.1:=⟨x1.aS.out,x1.aS.C9⟩
 have v2:lN mk false B.1 C.1 wB.1 wC.1:=⟨y1.aS.out,y1.aS.C9⟩
 have v3:lN mk false C.1 (aJ G true d ([]::C.2) C.1).1 wC.1 (bQ GW mk d (q.num:Int) wC.2 { wC.1 with num:=wC.1.num+1 }).1:=⟨z1.aS.out,fun h=>by cases h⟩
 refine⟨⟨z1.qp,((v0.trans v1 Iy Iz).trans v2 (Iy.trans Iz) NP).trans v3 ((Iy.trans Iz).trans NP) hrE,z1.num⟩,fun m hm1 hm2=>⟨fun hge=>?_,fun hlt=>?_⟩⟩
 ·exact z1.aS.C9 rfl m (by omega) hm2
 ·have:(aJ G true d ([]::C.2) C.1).1.next=(aJ G true d ([]::C.2) C.1).1.next:=rfl
  show bG (aJ G true d ([]::C.2) C.1).1.aS (m:Int)=_;rw[hrE.aS m (.inl (by omega)),hcv,hbv,hDvs]
def oQ:List ae->Nat->Nat->Bool
 | [],_,_=>false
 | k::ks,n,m=>if m<n+au k then decide (k.kind=5)&&(match k.kids with| [b,c,_]=>decide (n+1+au b+au c<=m)|_=>false) else oQ ks (n+au k) m
theorem Tz(hG:yj G GW Gn)(after:List Nat):∀(ks:List ae),(∀k∈ks,fJ k=true/\uu k=true)->∀(j:Nat) (r:RS) (q:RW) (o:Int),1<=r.next->q.num+1=r.next->lX Gn r q ->
 IQ Gn mk false r (ah G false ks 0 ks.length [] r).1 q (dQ GW mk 2 after ks j o [] q).1/\(ah G false ks 0 ks.length [] r).1.next=r.next+aG ks /\
 ∀m:Nat,r.next<=m->m<(ah G false ks 0 ks.length [] r).1.next ->
  if oQ ks r.next m=true then ∃s' sq',bG (ah G false ks 0 ks.length [] r).1.aS (m:Int)=some (aj (ak s'))/\oZ (ah G false ks 0 ks.length [] r).1.ds s' sq'/\(mk=(m:Int)->(dQ GW mk 2 after ks j o [] q).1.at_=sq')
  else bG (ah G false ks 0 ks.length [] r).1.aS (m:Int)=bG r.aS (m:Int)
 | [],_,j,r,q,o,_,hn,kJ=>by
  rw[ah,dQ];exact⟨⟨kJ,lN.refl mk false rfl rfl,hn⟩,by simp[aG],fun m h1 h2=>by have h2':m<r.next:=h2;omega⟩
 | k::ks,hk,j,r,q,o,h1,hn,kJ=>by
  rw[abR,ah,dQ];try simp only
  rw[if_neg (show ¬((2:Int)=16/\j=2) from fun h=>absurd h.1 (by decide)),if_neg (show ¬((2:Int)=5\/(2:Int)=6\/(2:Int)=11) by decide)];obtain⟨hsh,ht⟩:=hk k (by simp);have Yy:=nK G k false [] r;have hs2:(aJ G false k [] r).2=[]:=List.length_eq_zero_iff.1 (by rw[vP];rfl);have hnx:(aJ G false k [] r).1.next=r.next+au k:=(TA (xG.refl G) k ht [] r rfl).2.2.1
  have hone:IQ Gn mk false r (aJ G false k [] r).1 q (bQ GW mk k o [] { q with num:=q.num+1 }).1/\∀m:Nat,r.next<=m->m<r.next+au k ->
   if oQ (k::ks) r.next m=true then ∃s' sq',bG (aJ G false k [] r).1.aS (m:Int)=some (aj (ak s'))/\oZ (aJ G false k [] r).1.ds s' sq'/\(mk=(m:Int)->(bQ GW mk k o [] { q with num:=q.num+1 }).1.at_=sq')
   else bG (aJ G false k [] r).1.aS (m:Int)=bG r.aS (m:Int):=by
   have O3:lX Gn r { q with num:=q.num+1 }:=kJ.of_same rfl rfl rfl rfl rfl rfl;have hsk:=jW hsh;obtain⟨kk,x,a,e,kids⟩:=k;have ht':=ht;rw[uu,Bool.or_eq_true,abG,abG,abG,decide_eq_true_eq,decide_eq_true_eq,decide_eq_true_eq]at ht';rcases ht' with⟨rfl,hf⟩| ⟨⟨rfl,-⟩,hit⟩
   ·have FT:∀f∈kids,f.kind=4/\∀c∈f.kids,vL c:=fun f hfm=>by
     have h3:=List.all_eq_true.1 hf f hfm;rw[abG,decide_eq_true_eq]at h3;have h4:=hsk f hfm;have h5:=LZ h4 h3.1;exact⟨h3.1,fun c hc=>⟨Qy (jW h4 c hc) (h5 c hc),.inr (by rw[h5 c hc];decide),by rw[h5 c hc];decide⟩⟩
    obtain⟨R1,R2⟩:=rec_res (mk:=mk) hG (x:=x) (a:=a) (e:=e) FT [] [] r { q with num:=q.num+1 } o h1 hn O3;refine⟨⟨R1.qp,⟨R1.aS.out,R1.aS.C9⟩,R1.num⟩,fun m hm1 hm2=>?_⟩
    have hb:oQ (.node 3 x a e kids::ks) r.next m=false:=by
     rw[oQ,if_pos hm2];have:decide ((ae.node 3 x a e kids).kind=5)=false:=rfl;rw[this];rfl
    rw[hb,if_neg (by simp),R2]
   ·obtain⟨b,c,d,rfl,-⟩:=K4 hsh
    obtain⟨R1,R2⟩:=aaa (mk:=mk) hG hsh hit [] r { q with num:=q.num+1 } o h1 hn O3;refine⟨⟨R1.qp,⟨R1.aS.out,R1.aS.C9⟩,R1.num⟩,fun m hm1 hm2=>?_⟩;obtain⟨R3,R4⟩:=R2 m hm1 (by rw[hnx];exact hm2)
    have hb:oQ (.node 5 x a e [b,c,d]::ks) r.next m=decide (r.next+1+au b+au c<=m):=by
     rw[oQ,if_pos hm2];have:decide ((ae.node 5 x a e [b,c,d]).kind=5)=true:=rfl;rw[this,Bool.true_and];rfl
    rw[hb];by_cases hge:r.next+1+au b+au c<=m
    ·rw[if_pos (decide_eq_true hge)]
     exact R3 hge
    ·rw[if_neg (by simpa using hge)]
     exact R4 (by omega)
  obtain⟨K1,K2⟩:=hone;rw[hs2];obtain⟨T1,T2,T3⟩:=Tz hG after ks (fun c hc=>hk c (by simp[hc])) (j+1) (aJ G false k [] r).1 (bQ GW mk k o [] { q with num:=q.num+1 }).1 o (abF h1 Yy.next) K1.num K1.qp;have hrr:=fe G ks false 0 ks.length [] (aJ G false k [] r).1;refine⟨⟨T1.qp,K1.aS.trans T1.aS Yy hrr,T1.num⟩,by rw[T2,hnx,aG];omega,fun m hm1 hm2=>?_⟩;by_cases hlt:m<r.next+au k
  ·have hk2:=K2 m hm1 hlt
   rw[hrr.aS m (.inl (by omega))];by_cases hb:oQ (k::ks) r.next m=true
   ·rw[if_pos hb]at hk2⊢
    obtain⟨s',sq',c1,c2,c3⟩:=hk2;refine⟨s',sq',c1,c2.mono hrr.grow,fun hm=>?_⟩
    rw[T1.aS.out fun m' e' hh=>by rw[hm]at e';have:m=m':=(by omega);omega]
    exact c3 hm
   ·rw[if_neg hb]at hk2⊢
    exact hk2
  ·have hb:oQ (k::ks) r.next m=oQ ks (aJ G false k [] r).1.next m:=by rw[oQ,if_neg hlt,hnx]
   rw[hb];have:=T3 m (by omega) hm2;by_cases hb2:oQ ks (aJ G false k [] r).1.next m=true
   ·rw[if_pos hb2]at this⊢
    exact this
   ·rw[if_neg hb2]at this⊢
    rw[this,Yy.aS m (.inr (by omega))]
end
end Go.Proofs.YtoepemlnlpamlaaGreat
