/- The law NamesVisibleAt holds where what it reads is of bulk at most 1048576: it returns true, and its arguments read as before. Part 34: Wlk2 Wlk3. -/
import Derived.Test.YtoepemlnlpamlaaGreatVisa23
set_option maxRecDepth 100000
set_option maxHeartbeats 4000000
namespace Go.Proofs.YtoepemlnlpamlaaGreat
def Ty(G:bC)(GW:List Dc)(Gn:Int->Prop)(mk:Int)(i:Bool)(t:ae):Prop:=
 ∀(s:aS) (sq:List Nat) (r:RS) (q:RW) (o:Int),s≠[]->q.num=r.next->r.owner=o->mI Gn r q->pQ r.ds s sq ->
  JF Gn mk i r (aM G i t s r).1 q (bR GW mk t o sq q).1/\(aM G i t s r).1.owner=o/\pQ (aM G i t s r).1.ds (aM G i t s r).2 (bR GW mk t o sq q).2
theorem Rv{s A:aS}(h:A.length=s.length)(B:s≠[]):A≠[]:=fun e=>B (List.length_eq_zero_iff.1 (by rw[<- h,e];rfl))
theorem Hd:∀{ts:List ae}{c:ae},c∈ts->ai c<=aD ts
 | [],c,h=>by cases h
 | t::ts,c,h=>by
  rw[aD];rcases List.mem_cons.1 h with rfl|h
  ·omega
  ·have:=Hd h
   omega
section
variable {G:bC}{GW:List Dc}{Gn:Int->Prop}{mk:Int}
theorem Wp{k:Int}(x:ByteArray)(a e:Int)(A:List ae)(o:Int)(s:List Nat)(q:RW)(h:k≠6/\k≠7/\k≠8/\k≠12):(bR GW mk (.node k x a e A) o s q).2=s:=by
 rw[bR];try simp only
 rw[if_neg h.1,if_neg (fun B=>B.elim h.2.1 (fun C=>C.elim h.2.2.1 h.2.2.2))]
theorem Bp(i:Bool)(k:Int)(A:List Nat)(F:k≠16):∀(ts:List ae),(∀t∈ts,Ty G GW Gn mk i t)->((k=5\/k=6\/k=11)\/∀t∈ts,∀o s q,(bR GW mk t o s q).2=s) ->
 ∀(j:Nat) (s:aS) (sq:List Nat) (r:RS) (q:RW) (o:Int),s≠[]->q.num+1=r.next->r.owner=o->mI Gn r q->pQ r.ds s sq ->
 JF Gn mk i r (ah G i ts 0 ts.length s r).1 q (dW GW mk k A ts j o sq q).1/\(ah G i ts 0 ts.length s r).1.owner=o/\pQ (ah G i ts 0 ts.length s r).1.ds (ah G i ts 0 ts.length s r).2 (dW GW mk k A ts j o sq q).2
 | [],_,_,j,s,sq,r,q,o,hs,hn,ho,lD,hsc=>by
  rw[ah,dW];exact⟨⟨lD,mD.refl mk i rfl rfl,hn⟩,ho,hsc⟩
 | t::ts,hT,hth,j,s,sq,r,q,o,hs,hn,ho,lD,hsc=>by
  rw[aao,ah,dW];try simp only
  rw[if_neg (show ¬(k=16/\j=2) from fun h=>F h.1)];obtain⟨D,I,J⟩:=hT t (by simp) s sq r { q with num:=q.num+1 } o hs hn ho (lD.of_same rfl rfl rfl rfl rfl rfl) hsc
  have H:(if k=5\/k=6\/k=11 then(bR GW mk t o sq { q with num:=q.num+1 }).2 else sq)=(bR GW mk t o sq { q with num:=q.num+1 }).2:=by
   rcases hth with h|h
   ·rw[if_pos h]
   ·split
    ·rfl
    ·rw[h t (by simp)]
  rw[H];have B:(k=5\/k=6\/k=11)\/∀t∈ts,∀o s q,(bR GW mk t o s q).2=s:=hth.imp_right fun h c E=>h c (by simp[E])
  have C:=Bp i k A F ts (fun c E=>hT c (by simp[E])) B (j+1) _ _ _ _ o (Rv (wN G t i s r) hs) D.num I D.qK J;refine⟨⟨C.1.qK,?_,C.1.num⟩,C.2.1,C.2.2⟩;have K:mD mk i r (aM G i t s r).1 q (bR GW mk t o sq { q with num:=q.num+1 }).1:=⟨D.aR.out,D.aR.D7⟩
  exact K.trans C.1.aR (nZ _ _ _ _ _) (fF _ _ _ _ _ _ _)
theorem sK(GW:List Dc)(q:RW)(s:List Nat)(t:ae)(o:Int):
 (t.kind=12->nM GW q s t o=(fQ GW q s t 4 o).1)/\(t.kind=16->nM GW q s t o=(fQ GW q s t 5 o).1)/\((t.kind=7\/t.kind=8)->nM GW q s t o=(fQ GW q s t 3 o).1):=by
 refine⟨fun h=>?_,fun h=>?_,fun h=>?_⟩
 all_goals
  unfold nM;rw[if_neg (by omega),if_neg (by omega),if_neg (by omega),if_neg (by omega),if_neg (by omega),if_neg (by omega),if_neg (by omega),if_neg (fun A=>by have:=A.1;omega)]
 ·rw[if_neg (by omega),if_pos h]
 ·rw[if_neg (by omega),if_neg (by omega),if_pos h]
 ·rw[if_pos h]
theorem oD(GW:List Dc)(q:RW)(s:List Nat)(t:ae)(c o:Int)(h:t.kind=7\/t.kind=8\/t.kind=12\/t.kind=16):uf GW q s t=(fQ GW q s t c o).2:=by
 unfold uf;rw[if_pos h];exact varW_two _ _ _ _ _ _ _ _
theorem Qy(G:bC)(r:RS)(c:Int)(n:Nat)(t:ae)(s:aS):(aH G r c n t ([]::s)).1=(aH G r c n t s).1:=by
 unfold aH;have:fe ([]::s) t.text=fe s t.text:=rfl;rw[this];split<;>rfl
theorem QM(Y:yS G GW Gn)(i:Bool):∀(m:Nat) (t:ae),ai t<=m->FP t=true->Ty G GW Gn mk i t
 | 0,t,h,_=>by have:=lN t;omega
 | m+1,.node k x a e kids,h,hin=>by
  obtain⟨hk,h12,h16,hno,u⟩:=CB hin;have hcnt:ai (.node k x a e kids)=1+aD kids:=rfl;have N:∀c∈kids,Ty G GW Gn mk i c:=fun c z=>QM Y i m c (by have:=Hd z;omega) (TF u c z)
  have J:k≠11->∀c∈kids,∀o s q,(bR GW mk c o s q).2=s:=fun D c z o s q=>by
   have y:=hno D c z;have v:=TF u c z;obtain⟨kc,xc,ac,ec,kidsc⟩:=c;have:=(CB v).1;exact Wp _ _ _ _ _ _ _ ⟨by omega,by omega,by omega,y⟩
  intro s sq r q o l n T lD A;rw[visit_B G k x a e kids i s r hin,bR];try simp only
  rw[if_neg (show ¬(k=3\/k=5) by omega),if_neg (show k≠6 by omega)];have E:(dI mk q sq).num=r.next:=by rw[qM];exact n
  have f:=sH lD mk sq;have K:=NJ r i (ak (ay s));by_cases D:k=11
  ·rw[if_pos D,if_neg (by omega)]
   have hu:iR G s r (aG r i (ak (ay s))) (.node k x a e kids)=aG r i (ak (ay s)):=LG _ _ _ _ _ (by show ¬(k=20\/k=22\/k=27\/k=19\/k=9);omega);obtain⟨a1,a2,a3,a4,a5⟩:=CF Y f i (ak (ay s)) (.node k x a e kids) o E (fun _=>A) (by show ¬(k=3\/k=4\/k=5\/k=7\/k=8\/k=12\/k=16);omega);rw[hu]at a1 a2 a3;obtain⟨L1,X,L3⟩:=Bp (G:=G) (GW:=GW) (Gn:=Gn) (mk:=mk) i k (uf GW (dI mk q sq) sq (.node k x a e kids)) (by omega) kids N (.inl (.inr (.inr D))) 0 ([]::s) sq (aG r i (ak (ay s))) (nM GW (dI mk q sq) sq (.node k x a e kids) o) o (by simp) (by rw[a4,E];rfl) (a2.trans T) a1 A.push;exact⟨⟨L1.qK,mD.trans (mD.head rfl rfl ⟨[],by simp[aG]⟩ n a5 (fun _=>A)) L1.aR K (fF _ _ _ _ _ _ _),L1.num⟩,X,A.mono (K.trans (fF _ _ _ _ _ _ _)).grow⟩
  rw[if_neg D];by_cases qg:k=12
  ·rw[if_pos qg,if_pos (by omega),Qy,(sK GW _ sq (.node k x a e kids) o).1 qg,oD GW _ sq (.node k x a e kids) 4 o (.inr (.inr (.inl qg)))]
   obtain⟨b1,b2,Q,b4,b5,b6,b7,b8,b9⟩:=JS Y f A i (ak (ay s)) (c:=4) (by decide) (.node k x a e kids) E T;have H:=NI G r i (ak (ay s)) 4 (.node k x a e kids) s;obtain⟨L1,X,L3⟩:=Bp (G:=G) (GW:=GW) (Gn:=Gn) (mk:=mk) i k (fQ GW (dI mk q sq) sq (.node k x a e kids) 4 o).2 (by omega) kids N (.inr (J D)) 0 s sq _ _ o l (by rw[b5,Q,E]) (b2.trans T) b1 (A.mono H.grow);exact⟨⟨L1.qK,mD.trans (mD.head Q b4 H.grow n b6 (fun _=>A)) L1.aR H (fF _ _ _ _ _ _ _),L1.num⟩,X,(b8 l).mono (fF _ _ _ _ _ _ _).grow⟩
  rw[if_neg qg,if_neg (show ¬(k=7\/k=8\/k=12) by omega)];by_cases P:k=16
  ·rw[if_pos P,Qy,(sK GW _ sq (.node k x a e kids) o).2.1 P,oD GW _ sq (.node k x a e kids) 5 o (.inr (.inr (.inr P)))]
   obtain⟨b1,b2,Q,b4,b5,b6,b7,b8,b9⟩:=JS Y f A i (ak (ay s)) (c:=5) (by decide) (.node k x a e kids) E T;have H:=NI G r i (ak (ay s)) 5 (.node k x a e kids) s;have hl:=h16 P;obtain⟨U,hU⟩:∃U,(aH G (aG r i (ak (ay s))) 5 r.next (.node k x a e kids) s).1=U:=⟨_,rfl⟩
   obtain⟨Z,hZ⟩:∃Z,fQ GW (dI mk q sq) sq (.node k x a e kids) 5 o=Z:=⟨_,rfl⟩
   obtain⟨V,hV⟩:∃V,xm G (.node k x a e kids) s r.next=V:=⟨_,rfl⟩
   have O:=J D;rw[hU,hZ]at b1 b7;rw[hZ]at b5 b6;rw[hU]at b2 Q b4 H;rw[hV]at b7;rw[hU,hZ,hV];clear hU hZ hV b8 b9 J
   match kids,hl,N,O with
   | [b,c,d],_,N,O=>
    have hA:ah G i [b,c,d] 0 2 s U=aM G i c (aM G i b s U).2 (aM G i b s U).1:=by simp only[ah]
    have hB:∀S R,ah G i [b,c,d] 2 1 S R=aM G i d S R:=fun S R=>by simp only[ah]
    obtain⟨j,x2,x3⟩:=N b (by simp) s sq U { Z.1 with num:=Z.1.num+1 } o l (by show Z.1.num+1=_;rw[b5,Q,E]) (b2.trans T) (b1.of_same rfl rfl rfl rfl rfl rfl) (A.mono H.grow);rw[O b (by simp)]at x3
    have hW:dW GW mk k Z.2 [b,c,d] 0 o sq Z.1=((bR GW mk d o Z.2 { (bR GW mk c o sq { (bR GW mk b o sq { Z.1 with num:=Z.1.num+1 }).1 with num:=(bR GW mk b o sq { Z.1 with num:=Z.1.num+1 }).1.num+1 }).1 with num:=(bR GW mk c o sq { (bR GW mk b o sq { Z.1 with num:=Z.1.num+1 }).1 with num:=(bR GW mk b o sq { Z.1 with num:=Z.1.num+1 }).1.num+1 }).1.num+1 }).1,Z.2):=by
     rw[dW,dW,dW,dW];simp only[P];simp
    rw[hA,hB,hW];obtain⟨B,F⟩:∃B,aM G i b s U=B:=⟨_,rfl⟩
    obtain⟨L,ZI⟩:∃L,bR GW mk b o sq { Z.1 with num:=Z.1.num+1 }=L:=⟨_,rfl⟩
    have hsB:B.2≠[]:=by rw[<- F];exact Rv (wN G b i s U) l
    have W:qB U B.1:=by rw[<- F];exact nZ _ _ _ _ _
    rw[F,ZI]at j;rw[F]at x2 x3;rw[F,ZI];obtain⟨g,y2,y3⟩:=N c (by simp) B.2 sq B.1 { L.1 with num:=L.1.num+1 } o hsB j.num x2 (j.qK.of_same rfl rfl rfl rfl rfl rfl) x3;obtain⟨C,O5⟩:∃C,aM G i c B.2 B.1=C:=⟨_,rfl⟩
    obtain⟨M,ZH⟩:∃M,bR GW mk c o sq { L.1 with num:=L.1.num+1 }=M:=⟨_,rfl⟩
    have OU:qB B.1 C.1:=by rw[<- O5];exact nZ _ _ _ _ _
    rw[O5,ZH]at g;rw[O5]at y2;rw[O5,ZH];obtain⟨z1,z2,z3⟩:=N d (by simp) (V::s) Z.2 C.1 { M.1 with num:=M.1.num+1 } o (by simp) g.num y2 (g.qK.of_same rfl rfl rfl rfl rfl rfl) (b7.mono (W.trans OU).grow);have Jq:=nZ G d i (V::s) C.1;have v0:mD mk i r U q Z.1:=mD.head Q b4 H.grow n b6 (fun _=>A);have v1:mD mk i U B.1 Z.1 L.1:=⟨j.aR.out,j.aR.D7⟩
    have v2:mD mk i B.1 C.1 L.1 M.1:=⟨g.aR.out,g.aR.D7⟩
    have v3:mD mk i C.1 (aM G i d (V::s) C.1).1 M.1 (bR GW mk d o Z.2 { M.1 with num:=M.1.num+1 }).1:=⟨z1.aR.out,z1.aR.D7⟩
    exact⟨⟨z1.qK,((v0.trans v1 H W).trans v2 (H.trans W) OU).trans v3 ((H.trans W).trans OU) Jq,z1.num⟩,z2,A.mono (((H.trans W).trans OU).trans Jq).grow⟩
  rw[if_neg P];obtain⟨a1,a2,a3,a4,a5⟩:=CF Y f i (ak (ay s)) (.node k x a e kids) o E (fun _=>A) (by show ¬(k=3\/k=4\/k=5\/k=7\/k=8\/k=12\/k=16);omega);have I:=QX G s r i (ak (ay s)) (.node k x a e kids);obtain⟨L1,X,L3⟩:=Bp (G:=G) (GW:=GW) (Gn:=Gn) (mk:=mk) i k (uf GW (dI mk q sq) sq (.node k x a e kids)) P kids N (.inr (J D)) 0 s sq _ _ o l (by rw[a4,E,Cr]) (a2.trans T) a1 (A.mono I.grow);exact⟨⟨L1.qK,mD.trans (mD.head (Cr _ _ _ _ _ _) a3 I.grow n a5 (fun _=>A)) L1.aR I (fF _ _ _ _ _ _ _),L1.num⟩,X,A.mono (I.trans (fF _ _ _ _ _ _ _)).grow⟩
theorem leaf_res(P:yS G GW Gn){t:ae}(Q:wK t)(s:aS)(sq:List Nat)(r:RS)(q:RW)(o:Int)(E:q.num=r.next)(T:mI Gn r q):
 JF Gn mk false r (aM G false t s r).1 q (bR GW mk t o sq q).1/\(aM G false t s r).1.owner=r.owner/\(aM G false t s r).1.aR=r.aR:=by
 obtain⟨K,L,N⟩:=Q;obtain⟨k,x,a,e,B⟩:=t;have C:B=[]:=K;have M:k<2\/8<k:=L;have O:k<11:=N;subst C;have A:(dI mk q sq).num=r.next:=by rw[qM];exact E
 obtain⟨F,H,D,I,J⟩:=CF (s:=s) (sq:=sq) P (sH T mk sq) false (ak (ay s)) (.node k x a e []) o A (fun h=>by have:k=20:=h;omega) (by show ¬(k=3\/k=4\/k=5\/k=7\/k=8\/k=12\/k=16);omega)
 have R:aM G false (.node k x a e []) s r=(iR G s r (aG r false (ak (ay s))) (.node k x a e []),s):=by
  rw[dx,if_neg (by omega),if_neg (by omega),if_neg (by omega),if_neg (by omega),if_neg (by omega),if_neg (by omega),if_neg (by omega),ah]
 have S:(bR GW mk (.node k x a e []) o sq q).1=nM GW (dI mk q sq) sq (.node k x a e []) o:=by
  rw[bR,dW]
 rw[R,S];refine⟨⟨F,mD.head (s:=s) (sq:=sq) (Cr _ _ _ _ _ _) D (QX _ _ _ _ _ _).grow E J (fun h=>by cases h),by rw[I,A,Cr]⟩,H,D⟩
theorem EF(D:yS G GW Gn)(k:Int)(A:List Nat):∀(ts:List ae),(∀t∈ts,wK t)->∀(j:Nat) (s:aS) (sq:List Nat) (r:RS) (q:RW) (o:Int),q.num+1=r.next->mI Gn r q ->
 JF Gn mk false r (ah G false ts 0 ts.length s r).1 q (dW GW mk k A ts j o sq q).1/\(ah G false ts 0 ts.length s r).1.owner=r.owner/\(ah G false ts 0 ts.length s r).1.aR=r.aR
 | [],_,j,s,sq,r,q,o,hn,lD=>by
  rw[ah,dW];exact⟨⟨lD,mD.refl mk false rfl rfl,hn⟩,rfl,rfl⟩
 | t::ts,hT,j,s,sq,r,q,o,hn,lD=>by
  rw[aao,ah,dW];try simp only
  obtain⟨B,E,F⟩:=leaf_res (mk:=mk) D (hT t (by simp)) s (if k=16/\j=2 then A else sq) r { q with num:=q.num+1 } o hn (lD.of_same rfl rfl rfl rfl rfl rfl);obtain⟨C,J,K⟩:=EF D k A ts (fun c H=>hT c (by simp[H])) (j+1) (aM G false t s r).2 (if k=5\/k=6\/k=11 then(bR GW mk t o (if k=16/\j=2 then A else sq) { q with num:=q.num+1 }).2 else if k=16/\j=2 then A else sq) _ _ o B.num B.qK;refine⟨⟨C.qK,?_,C.num⟩,J.trans E,K.trans F⟩;have I:mD mk false r (aM G false t s r).1 q (bR GW mk t o (if k=16/\j=2 then A else sq) { q with num:=q.num+1 }).1:=⟨B.aR.out,B.aR.D7⟩
  exact I.trans C.aR (nZ _ _ _ _ _) (fF _ _ _ _ _ _ _)
theorem prm_sim(I:yS G GW Gn){p:ae}(U:p.kind=7\/p.kind=8)(V:∀c∈p.kids,wK c):Ty G GW Gn mk false p:=by
 intro s sq r q o W J K X F;obtain⟨k,x,a,e,A⟩:=p;have B:k=7\/k=8:=U;have E:∀c∈A,wK c:=V;have D:(dI mk q sq).num=r.next:=by rw[qM];exact J
 have M:=sH X mk sq;rw[dx,if_neg (by omega),if_neg (by omega),if_neg (by omega),if_pos B,bR];try simp only
 rw[if_neg (show ¬(k=3\/k=5) by omega),if_neg (show k≠6 by omega),if_pos (show k=7\/k=8\/k=12 by omega),(sK GW _ sq (.node k x a e A) o).2.2 B,oD GW _ sq (.node k x a e A) 3 o (B.imp_right .inl)];obtain⟨O,P,H,Q,R,S,Z,z,T⟩:=JS I M F false (ak (ay s)) (c:=3) (by decide) (.node k x a e A) D K;have L:=NI G r false (ak (ay s)) 3 (.node k x a e A) s;obtain⟨L1,N,Y⟩:=EF (mk:=mk) I k (fQ GW (dI mk q sq) sq (.node k x a e A) 3 o).2 A E 0 (aH G (aG r false (ak (ay s))) 3 r.next (.node k x a e A) s).2 sq _ _ o (by rw[R,H,D]) O;have C:=Mt E;refine⟨⟨L1.qK,mD.trans (mD.head (s:=s) (sq:=sq) H Q L.grow J S (fun h=>by cases h)) L1.aR L (fF _ _ _ _ _ _ _),L1.num⟩,(N.trans P).trans K,?_⟩;rw[j3 G A false 0 A.length _ _ C.1 C.2];exact(T W).mono (fF _ _ _ _ _ _ _).grow
end
theorem Cz{k:Int}{x:ByteArray}{a e:Int}{A:List ae}(h:Ei (.node k x a e A)=true):(k≠2/\k≠3/\k≠4/\k≠5)/\mH A=true:=by
 rw[Ei]at h;simp only[aad,decide_eq_true_eq]at h;exact⟨h.1.1.1,h.2⟩
mutual
theorem F7(G:bC):∀(t:ae) (s:aS) (r:RS),Ei t=true->(aM G false t s r).1.aR=r.aR
 | .node k x a e kids,s,r,h=>by
  obtain⟨⟨J,E,F,H⟩,A⟩:=Cz h
  have C:∀c D,(aH G (aG r false (ak (ay s))) c r.next (.node k x a e kids) D).1.aR=r.aR:=fun c D=>by
   unfold aH;split<;>rfl
  have I:(iR G s r (aG r false (ak (ay s))) (.node k x a e kids)).aR=r.aR:=by
   have B:∀o,(gV (aG r false (ak (ay s))) r.next (.node k x a e kids) o).aR=r.aR:=fun o=>by cases o<;>rfl
   unfold iR;split
   ·exact B _
   split
   ·exact B _
   split
   ·exact B _
   split
   ·exact B _
   split
   ·exact B _
   ·rfl
  rw[dx,if_neg E,if_neg F,if_neg H];split
  ·exact(qI G kids 0 _ _ _ A).trans (C _ _)
  split
  ·exact qI G kids 0 _ _ _ A
  split
  ·exact(qI G kids 0 _ _ _ A).trans (C _ _)
  split
  ·exact(qI G kids 2 _ _ _ A).trans ((qI G kids 0 _ _ _ A).trans (C _ _))
  ·exact(qI G kids 0 _ _ _ A).trans I
theorem qI(G:bC):∀(ts:List ae) (f n:Nat) (s:aS) (r:RS),mH ts=true->(ah G false ts f n s r).1.aR=r.aR
 | [],_,_,_,r,_=>by rw[ah]
 | t::ts,f+1,n,s,r,h=>by
  rw[mH,aad]at h;rw[ah];exact qI G ts f n s r h.2
 | t::ts,0,0,s,r,_=>by rw[ah]
 | t::ts,0,n+1,s,r,h=>by
  rw[mH,aad]at h;rw[ah];exact(qI G ts 0 n _ _ h.2).trans (F7 G t s r h.1)
end
theorem Ku(G:bC)(t:ae)(i:Bool)(s:aS)(r:RS)(h:Ei t=true):(aM G i t s r).1.next=r.next+ai t:=by
 obtain⟨⟨p,d,A⟩,-⟩:=O6 (yo.refl G) t i s s r r h rfl;exact A.n1
section
variable {G:bC}{GW:List Dc}{Gn:Int->Prop}{mk:Int}
theorem GZ(D:yS G GW Gn){r:RS}{q:RW}(K:mI Gn r q){c:Int}(I:c=0\/c=1\/c=2)(i:Bool)(v:List Int)(t:ae)(C:q.num=r.next)(L:1<=r.next){o:Int}(J:(if c=0\/c=2 then -1 else r.owner)=o):
 mI Gn (aW (aG r i v) c r.next t (decide ((aU (if c=1 then G.fields else G.globals) t.text).getD 0≠(r.next:Int)))) (fJ GW q t c o)/\(fJ GW q t c o).num=q.num/\(fJ GW q t c o).at_=q.at_:=by
 have B:(nN GW (decide (c=1)) t.text).map Dc.node=aU (if c=1 then G.fields else G.globals) t.text:=by
  rcases I with rfl|rfl|rfl
  ·exact D.nodeg _
  ·exact D.nodef _
  ·exact D.nodeg _
 have F:=IM K i v;unfold fJ;rw[B,C];by_cases A:aU (if c=1 then G.fields else G.globals) t.text=some (r.next:Int)
 ·rw[if_pos A,A]
  have E:decide ((some (r.next:Int)).getD 0≠(r.next:Int))=false:=by simp
  rw[E];exact⟨F.decl c t C (by exact J),C,rfl⟩
 ·rw[if_neg A]
  have E:decide ((aU (if c=1 then G.fields else G.globals) t.text).getD 0≠(r.next:Int))=true:=by
   rw[decide_eq_true_eq];intro h
   cases H:aU (if c=1 then G.fields else G.globals) t.text with
   | none=>
    rw[H]at h;have:(0:Int)=(r.next:Int):=h;omega
   | some j=>
    rw[H]at h A;have:j=(r.next:Int):=h;rw[this]at A;exact A rfl
  rw[E];exact⟨F.say 9 r.next t,C,rfl⟩
theorem Dw(r:RS)(c:Int)(n:Nat)(t:ae)(b:Bool):(aW r c n t b).aR=r.aR/\(aW r c n t b).owner=r.owner:=by cases b<;>exact⟨rfl,rfl⟩
theorem Dx(r:RS)(i:Bool)(v:List Int)(c:Int)(t:ae)(b:Bool):qB r (aW (aG r i v) c r.next t b):=sD.declare r i v c t b
theorem MX(O:yS G GW Gn)(B:List Nat):∀(C:List ae),(∀f∈C,f.kind=4/\∀c∈f.kids,wK c)->∀(j:Nat) (s:aS) (sq:List Nat) (r:RS) (q:RW) (o:Int),1<=r.next->q.num+1=r.next->r.owner=o->mI Gn r q ->
 JF Gn mk false r (ah G false C 0 C.length s r).1 q (dW GW mk 3 B C j o sq q).1/\(ah G false C 0 C.length s r).1.aR=r.aR
 | [],_,j,s,sq,r,q,o,_,hn,_,lD=>by
  rw[ah,dW];exact⟨⟨lD,mD.refl mk false rfl rfl,hn⟩,rfl⟩
 | f::C,hf,j,s,sq,r,q,o,h1,hn,ho,lD=>by
  rw[aao,ah,dW];try simp only
  rw[if_neg (show ¬((3:Int)=16/\j=2) from fun h=>absurd h.1 (by decide)),if_neg (show ¬((3:Int)=5\/(3:Int)=6\/(3:Int)=11) by decide)];obtain⟨v,u⟩:=hf f (by simp);obtain⟨k,x,a,e,A⟩:=f;have P:k=4:=v;subst P;have Q:∀c∈A,wK c:=u;have W:mI Gn r { q with num:=q.num+1 }:=lD.of_same rfl rfl rfl rfl rfl rfl;have H:(dI mk { q with num:=q.num+1 } sq).num=r.next:=by rw[qM];exact hn
  have t:(bR GW mk (.node 4 x a e A) o sq { q with num:=q.num+1 }).1=(dW GW mk 4 sq A 0 o sq (fJ GW (dI mk { q with num:=q.num+1 } sq) (.node 4 x a e A) 1 o)).1:=by
   rw[bR];rfl
  obtain⟨Y,Z,z⟩:=GZ O (sH W mk sq) (c:=1) (.inr (.inl rfl)) false (ak (ay s)) (.node 4 x a e A) H h1 (o:=o) (by rw[if_neg (by decide)];exact ho)
  have L:aM G false (.node 4 x a e A) s r=ah G false A 0 A.length s (aW (aG r false (ak (ay s))) 1 r.next (.node 4 x a e A) (decide ((aU G.fields x).getD 0≠(r.next:Int)))):=by
   rw[dx,if_neg (by decide),if_pos rfl]
  have M:=Dx r false (ak (ay s)) 1 (.node 4 x a e A) (decide ((aU G.fields x).getD 0≠(r.next:Int)));have E:(aW (aG r false (ak (ay s))) 1 r.next (.node 4 x a e A) (decide ((aU G.fields x).getD 0≠(r.next:Int)))).next=r.next+1:=by rw[ql];rfl
  have K:=Dw (aG r false (ak (ay s))) 1 r.next (.node 4 x a e A) (decide ((aU G.fields x).getD 0≠(r.next:Int)));obtain⟨D,S⟩:∃D,aW (aG r false (ak (ay s))) 1 r.next (.node 4 x a e A) (decide ((aU G.fields x).getD 0≠(r.next:Int)))=D:=⟨_,rfl⟩
  have N:mI Gn D (fJ GW (dI mk { q with num:=q.num+1 } sq) (.node 4 x a e A) 1 o):=by rw[<- S];exact Y
  rw[S]at L M E K;obtain⟨L1,U,V⟩:=EF (mk:=mk) O 4 sq A Q 0 s sq D _ o (by rw[Z,H,E]) N;have X:=fF G A false 0 A.length s D
  have F:JF Gn mk false r (aM G false (.node 4 x a e A) s r).1 q (bR GW mk (.node 4 x a e A) o sq { q with num:=q.num+1 }).1:=by
   rw[L,t];have T:mD mk false r D { q with num:=q.num+1 } (fJ GW (dI mk { q with num:=q.num+1 } sq) (.node 4 x a e A) 1 o):=mD.head (s:=s) (sq:=sq) E K.1 M.grow hn z (fun h=>by cases h);have m:mD mk false r D q (fJ GW (dI mk { q with num:=q.num+1 } sq) (.node 4 x a e A) 1 o):=⟨T.out,T.D7⟩
   exact⟨L1.qK,m.trans L1.aR M X,L1.num⟩
  have I:(aM G false (.node 4 x a e A) s r).1.owner=o:=by rw[L,U,K.2];exact ho
  have l:(aM G false (.node 4 x a e A) s r).1.aR=r.aR:=by rw[L,V,K.1];rfl
  have J:=nZ G (.node 4 x a e A) false s r;obtain⟨R,n⟩:=MX O B C (fun c y=>hf c (by simp[y])) (j+1) (aM G false (.node 4 x a e A) s r).2 sq _ _ o (aac h1 J.next) F.num I F.qK;exact⟨⟨R.qK,F.aR.trans R.aR J (fF _ _ _ _ _ _ _),R.num⟩,n.trans l⟩
theorem rec_res(L:yS G GW Gn){x:ByteArray}{a e:Int}{A:List ae}(S:∀f∈A,f.kind=4/\∀c∈f.kids,wK c)(s:aS)(sq:List Nat)(r:RS)(q:RW)(o:Int)(R:1<=r.next)(H:q.num=r.next)(U:mI Gn r q):
 JF Gn mk false r (aM G false (.node 3 x a e A) s r).1 q (bR GW mk (.node 3 x a e A) o sq q).1/\(aM G false (.node 3 x a e A) s r).1.aR=r.aR:=by
 have C:(dI mk q sq).num=r.next:=by rw[qM];exact H
 have T:(bR GW mk (.node 3 x a e A) o sq q).1=(dW GW mk 3 sq A 0 (q.num:Int) sq (fJ GW (dI mk q sq) (.node 3 x a e A) 0 (-1))).1:=by
  rw[bR];rfl
 obtain⟨O,P,Q⟩:=GZ L (sH U mk sq) (c:=0) (.inl rfl) false (ak (ay s)) (.node 3 x a e A) C R (o:=-1) (by rw[if_pos (.inl rfl)]);have J:=Dx r false (ak (ay s)) 0 (.node 3 x a e A) (decide ((aU G.globals x).getD 0≠(r.next:Int)));have B:(aW (aG r false (ak (ay s))) 0 r.next (.node 3 x a e A) (decide ((aU G.globals x).getD 0≠(r.next:Int)))).next=r.next+1:=by rw[ql];rfl
 have E:=Dw (aG r false (ak (ay s))) 0 r.next (.node 3 x a e A) (decide ((aU G.globals x).getD 0≠(r.next:Int)))
 have M:aM G false (.node 3 x a e A) s r=ah G false A 0 A.length s { aW (aG r false (ak (ay s))) 0 r.next (.node 3 x a e A) (decide ((aU G.globals x).getD 0≠(r.next:Int))) with owner:=(r.next:Int) }:=by
  rw[dx,if_pos rfl]
 obtain⟨D,K⟩:∃D,aW (aG r false (ak (ay s))) 0 r.next (.node 3 x a e A) (decide ((aU G.globals x).getD 0≠(r.next:Int)))=D:=⟨_,rfl⟩
 have F:mI Gn D (fJ GW (dI mk q sq) (.node 3 x a e A) 0 (-1)):=by rw[<- K];exact O
 rw[K]at M J B E;have I:qB r ({ D with owner:=(r.next:Int) }:RS):=J.trans (sD.owner _ _);obtain⟨L1,N⟩:=MX (mk:=mk) L sq A S 0 s sq ({ D with owner:=(r.next:Int) }:RS) _ (q.num:Int) (by show 1<=D.next;omega) (by show _=D.next;rw[P,C,B]) (by show(r.next:Int)=_;rw[H]) (F.of_same (r':={ D with owner:=(r.next:Int) }) rfl rfl rfl rfl rfl rfl);rw[M,T];refine⟨⟨L1.qK,mD.trans (mD.head (s:=s) (sq:=sq) (u:={ D with owner:=(r.next:Int) }) B E.1 I.grow H Q (fun h=>by cases h)) L1.aR I (fF _ _ _ _ _ _ _),L1.num⟩,?_⟩;rw[N];show D.aR=r.aR;rw[E.1];rfl
theorem prms_sim(I:yS G GW Gn){b:ae}(R:b.kind=6)(K:∀p∈b.kids,(p.kind=7\/p.kind=8)/\∀q∈p.kids,wK q):Ty G GW Gn mk false b:=by
 intro s sq r q o U J T V E;obtain⟨k,x,a,e,A⟩:=b;have S:k=6:=R;subst S;have C:(dI mk q sq).num=r.next:=by rw[qM];exact J
 have L:iR G s r (aG r false (ak (ay s))) (.node 6 x a e A)=aG r false (ak (ay s)):=LG _ _ _ _ _ (by show ¬((6:Int)=20\/(6:Int)=22\/(6:Int)=27\/(6:Int)=19\/(6:Int)=9);decide);obtain⟨F,H,O,P,Q⟩:=CF I (sH V mk sq) false (ak (ay s)) (.node 6 x a e A) o C (fun _=>E) (by show ¬((6:Int)=3\/(6:Int)=4\/(6:Int)=5\/(6:Int)=7\/(6:Int)=8\/(6:Int)=12\/(6:Int)=16);decide);rw[dx,if_neg (by decide),if_neg (by decide),if_neg (by decide),if_neg (by decide),if_neg (by decide),if_neg (by decide),if_neg (by decide),bR];try simp only
 rw[if_neg (show ¬((6:Int)=3\/(6:Int)=5) by decide),if_pos trivial];rw[L]at F H O;rw[L];obtain⟨L1,M,N⟩:=Bp (G:=G) (GW:=GW) (Gn:=Gn) (mk:=mk) false 6 (uf GW (dI mk q sq) sq (.node 6 x a e A)) (by decide) A (fun p D=>prm_sim I (K p D).1 (K p D).2) (.inl (.inr (.inl rfl))) 0 s sq (aG r false (ak (ay s))) _ o U (by rw[P,C];rfl) (H.trans T) F E;have B:=NJ r false (ak (ay s));exact⟨⟨L1.qK,mD.trans (mD.head (s:=s) (sq:=sq) rfl rfl ⟨[],by simp[aG]⟩ J Q (fun h=>by cases h)) L1.aR B (fF _ _ _ _ _ _ _),L1.num⟩,M,N⟩
theorem proc_res(n:yS G GW Gn){x:ByteArray}{a e:Int}{b c d:ae}(hsh:fP (.node 5 x a e [b,c,d])=true)(V:mH [b,c,d]=true)(s:aS)(r:RS)(q:RW)(o:Int)(h1:1<=r.next)(hn:q.num=r.next)(lD:mI Gn r q):
 JF Gn mk false r (aM G false (.node 5 x a e [b,c,d]) s r).1 q (bR GW mk (.node 5 x a e [b,c,d]) o [] q).1 /\
 ∀m:Nat,r.next<=m->m<(aM G false (.node 5 x a e [b,c,d]) s r).1.next->(r.next+1+ai b+ai c<=m->∃s' Z,bE (aM G false (.node 5 x a e [b,c,d]) s r).1.aR (m:Int)=some (ak (ay s'))/\pQ (aM G false (.node 5 x a e [b,c,d]) s r).1.ds s' Z/\(mk=(m:Int)->(bR GW mk (.node 5 x a e [b,c,d]) o [] q).1.at_=Z)) /\
  (m<r.next+1+ai b+ai c->bE (aM G false (.node 5 x a e [b,c,d]) s r).1.aR (m:Int)=bE r.aR (m:Int)):=by
 obtain⟨b',c',d',hl,hb6,hps,hlc,hd11,W⟩:=Ez hsh;simp only[List.cons.injEq,and_true]at hl;obtain⟨rfl,rfl,rfl⟩:=hl;simp only[mH,aad,and_true]at V;obtain⟨T,U,hid⟩:=V;have X:(dI mk q []).num=r.next:=by rw[qM];exact hn
 obtain⟨a1,a2,a3⟩:=GZ n (sH lD mk []) (c:=2) (.inr (.inr rfl)) false (ak (ay s)) (.node 5 x a e [b,c,d]) X h1 (o:=-1) (by rw[if_pos (.inr rfl)]);have MP:=Dx r false (ak (ay s)) 2 (.node 5 x a e [b,c,d]) (decide ((aU G.globals x).getD 0≠(r.next:Int)));have N:(aW (aG r false (ak (ay s))) 2 r.next (.node 5 x a e [b,c,d]) (decide ((aU G.globals x).getD 0≠(r.next:Int)))).next=r.next+1:=by rw[ql];rfl
 have GY:=Dw (aG r false (ak (ay s))) 2 r.next (.node 5 x a e [b,c,d]) (decide ((aU G.globals x).getD 0≠(r.next:Int)));rw[dx,if_neg (by decide),if_neg (by decide),if_pos rfl];obtain⟨v,M⟩:∃v,aW (aG r false (ak (ay s))) 2 r.next (.node 5 x a e [b,c,d]) (decide ((aU G.globals x).getD 0≠(r.next:Int)))=v:=⟨_,rfl⟩
 have L:mI Gn v (fJ GW (dI mk q []) (.node 5 x a e [b,c,d]) 2 (-1)):=by rw[<- M];exact a1
 rw[M]at MP N GY⊢;obtain⟨D,K⟩:∃D:RS,({ v with owner:=(r.next:Int) }:RS)=D:=⟨_,rfl⟩
 have u:qB r D:=by rw[<- K];exact MP.trans (sD.owner _ _)
 have F:D.next=r.next+1:=by rw[<- K];exact N
 have I:D.aR=r.aR:=by rw[<- K];exact GY.1
 have f:D.owner=(q.num:Int):=by rw[<- K,hn]
 obtain⟨H,hH⟩:∃H,fJ GW (dI mk q []) (.node 5 x a e [b,c,d]) 2 (-1)=H:=⟨_,rfl⟩
 rw[hH]at L a2 a3;have g:mI Gn D H:=by rw[<- K];exact L.of_same rfl rfl rfl rfl rfl rfl
 rw[K]
 have hw:(bR GW mk (.node 5 x a e [b,c,d]) o [] q).1=(bR GW mk d (q.num:Int) (bR GW mk c (q.num:Int) (bR GW mk b (q.num:Int) [] { H with num:=H.num+1 }).2 { (bR GW mk b (q.num:Int) [] { H with num:=H.num+1 }).1 with num:=(bR GW mk b (q.num:Int) [] { H with num:=H.num+1 }).1.num+1 }).2
  { (bR GW mk c (q.num:Int) (bR GW mk b (q.num:Int) [] { H with num:=H.num+1 }).2 { (bR GW mk b (q.num:Int) [] { H with num:=H.num+1 }).1 with num:=(bR GW mk b (q.num:Int) [] { H with num:=H.num+1 }).1.num+1 }).1 with num:=(bR GW mk c (q.num:Int) (bR GW mk b (q.num:Int) [] { H with num:=H.num+1 }).2 { (bR GW mk b (q.num:Int) [] { H with num:=H.num+1 }).1 with num:=(bR GW mk b (q.num:Int) [] { H with num:=H.num+1 }).1.num+1 }).1.num+1 }).1:=by
  rw[bR,<- hH];simp only[dW];rfl
 rw[hw];have hA:ah G false [b,c,d] 0 2 [[]] D=aM G false c (aM G false b [[]] D).2 (aM G false b [[]] D).1:=by simp only[ah]
 have hB:∀S R,ah G true [b,c,d] 2 1 S R=aM G true d S R:=fun S R=>by simp only[ah]
 rw[hA,hB];obtain⟨z,x2,x3⟩:=prms_sim (mk:=mk) n hb6 hps [[]] [] D { H with num:=H.num+1 } (q.num:Int) (by simp) (by show H.num+1=_;rw[a2,X,F]) f (g.of_same rfl rfl rfl rfl rfl rfl) (pQ.nil _);have hbn:=Ku G b false [[]] D T;have P:=F7 G b [[]] D T;have O:=Rv (wN G b false [[]] D) (by simp);have t:qB D (aM G false b [[]] D).1:=nZ _ _ _ _ _;obtain⟨B,J⟩:∃B,aM G false b [[]] D=B:=⟨_,rfl⟩
 obtain⟨A,ZI⟩:∃A,bR GW mk b (q.num:Int) [] { H with num:=H.num+1 }=A:=⟨_,rfl⟩
 rw[J,ZI]at z x3;rw[J]at x2 hbn P O t;rw[J,ZI];obtain⟨y,y2,y3⟩:=QM (mk:=mk) n false _ c (aab _) (Ry hlc) B.2 A.2 B.1 { A.1 with num:=A.1.num+1 } (q.num:Int) O z.num x2 (z.qK.of_same rfl rfl rfl rfl rfl rfl) x3;have hcn:=Ku G c false B.2 B.1 U;have Q:=F7 G c B.2 B.1 U;have j:qB B.1 (aM G false c B.2 B.1).1:=nZ _ _ _ _ _;obtain⟨C,k⟩:∃C,aM G false c B.2 B.1=C:=⟨_,rfl⟩
 obtain⟨E,ZH⟩:∃E,bR GW mk c (q.num:Int) A.2 { A.1 with num:=A.1.num+1 }=E:=⟨_,rfl⟩
 rw[k,ZH]at y y3;rw[k]at y2 hcn Q j;rw[k,ZH];obtain⟨l,z2,z3⟩:=QM (mk:=mk) n true _ d (aab _) W ([]::C.2) E.2 C.1 { E.1 with num:=E.1.num+1 } (q.num:Int) (by simp) y.num y2 (y.qK.of_same rfl rfl rfl rfl rfl rfl) y3.push;have Y:=nZ G d true ([]::C.2) C.1;have v0:mD mk false r D q H:=mD.head (s:=s) (sq:=[]) F (by rw[I];rfl) u.grow hn a3 (fun h=>by cases h);have v1:mD mk false D B.1 H A.1:=⟨z.aR.out,z.aR.D7⟩
 have v2:mD mk false B.1 C.1 A.1 E.1:=⟨y.aR.out,y.aR.D7⟩
 have v3:mD mk false C.1 (aM G true d ([]::C.2) C.1).1 E.1 (bR GW mk d (q.num:Int) E.2 { E.1 with num:=E.1.num+1 }).1:=⟨l.aR.out,fun h=>by cases h⟩
 refine⟨⟨l.qK,((v0.trans v1 u t).trans v2 (u.trans t) j).trans v3 ((u.trans t).trans j) Y,l.num⟩,fun m hm1 hm2=>⟨fun hge=>?_,fun hlt=>?_⟩⟩
 ·exact l.aR.D7 rfl m (by omega) hm2
 ·have:(aM G true d ([]::C.2) C.1).1.next=(aM G true d ([]::C.2) C.1).1.next:=rfl
  show bE (aM G true d ([]::C.2) C.1).1.aR (m:Int)=_;rw[Y.aR m (.inl (by omega)),Q,P,I]
def kP:List ae->Nat->Nat->Bool
 | [],_,_=>false
 | k::ks,n,m=>if m<n+ai k then decide (k.kind=5)&&(match k.kids with| [b,c,_]=>decide (n+1+ai b+ai c<=m)|_=>false) else kP ks (n+ai k) m
theorem UQ(y:yS G GW Gn)(A:List Nat):∀(ks:List ae),(∀k∈ks,fP k=true/\uP k=true)->∀(j:Nat) (r:RS) (q:RW) (o:Int),1<=r.next->q.num+1=r.next->mI Gn r q ->
 JF Gn mk false r (ah G false ks 0 ks.length [] r).1 q (dW GW mk 2 A ks j o [] q).1/\(ah G false ks 0 ks.length [] r).1.next=r.next+aD ks /\
 ∀m:Nat,r.next<=m->m<(ah G false ks 0 ks.length [] r).1.next ->
  if kP ks r.next m=true then ∃N B,bE (ah G false ks 0 ks.length [] r).1.aR (m:Int)=some (ak (ay N))/\pQ (ah G false ks 0 ks.length [] r).1.ds N B/\(mk=(m:Int)->(dW GW mk 2 A ks j o [] q).1.at_=B)
  else bE (ah G false ks 0 ks.length [] r).1.aR (m:Int)=bE r.aR (m:Int)
 | [],_,j,r,q,o,_,hn,lD=>by
  rw[ah,dW];exact⟨⟨lD,mD.refl mk false rfl rfl,hn⟩,by simp[aD],fun m V h2=>by have h2':m<r.next:=h2;omega⟩
 | k::ks,hk,j,r,q,o,V,hn,lD=>by
  rw[aao,ah,dW];try simp only
  rw[if_neg (show ¬((2:Int)=16/\j=2) from fun h=>absurd h.1 (by decide)),if_neg (show ¬((2:Int)=5\/(2:Int)=6\/(2:Int)=11) by decide)];obtain⟨M,ht⟩:=hk k (by simp);have Y:=nZ G k false [] r;have u:(aM G false k [] r).2=[]:=List.length_eq_zero_iff.1 (by rw[wN];rfl);have K:(aM G false k [] r).1.next=r.next+ai k:=(UR (yo.refl G) k ht [] r rfl).2.2.1
  have S:JF Gn mk false r (aM G false k [] r).1 q (bR GW mk k o [] { q with num:=q.num+1 }).1/\∀m:Nat,r.next<=m->m<r.next+ai k ->
   if kP (k::ks) r.next m=true then ∃N B,bE (aM G false k [] r).1.aR (m:Int)=some (ak (ay N))/\pQ (aM G false k [] r).1.ds N B/\(mk=(m:Int)->(bR GW mk k o [] { q with num:=q.num+1 }).1.at_=B)
   else bE (aM G false k [] r).1.aR (m:Int)=bE r.aR (m:Int):=by
   have n:mI Gn r { q with num:=q.num+1 }:=lD.of_same rfl rfl rfl rfl rfl rfl;have t:=jG M;obtain⟨kk,x,a,e,D⟩:=k;have T:=ht;rw[uP,Bool.or_eq_true,aad,aad,aad,decide_eq_true_eq,decide_eq_true_eq,decide_eq_true_eq]at T;rcases T with⟨rfl,hf⟩| ⟨⟨rfl,-⟩,v⟩
   ·have GK:∀f∈D,f.kind=4/\∀c∈f.kids,wK c:=fun f Q=>by
     have Z:=List.all_eq_true.1 hf f Q;rw[aad,decide_eq_true_eq]at Z;have l:=t f Q;have z:=M0 l Z.1;exact⟨Z.1,fun c O=>⟨Rt (jG l c O) (z c O),.inr (by rw[z c O];decide),by rw[z c O];decide⟩⟩
    obtain⟨E,X⟩:=rec_res (mk:=mk) y (x:=x) (a:=a) (e:=e) GK [] [] r { q with num:=q.num+1 } o V hn n;refine⟨⟨E.qK,⟨E.aR.out,E.aR.D7⟩,E.num⟩,fun m H C=>?_⟩
    have I:kP (.node 3 x a e D::ks) r.next m=false:=by
     rw[kP,if_pos C];have:decide ((ae.node 3 x a e D).kind=5)=false:=rfl;rw[this];rfl
    rw[I,if_neg (by simp),X]
   ·obtain⟨b,c,d,rfl,-⟩:=Ez M
    obtain⟨E,X⟩:=proc_res (mk:=mk) y M v [] r { q with num:=q.num+1 } o V hn n;refine⟨⟨E.qK,⟨E.aR.out,E.aR.D7⟩,E.num⟩,fun m H C=>?_⟩;obtain⟨R3,R4⟩:=X m H (by rw[K];exact C)
    have I:kP (.node 5 x a e [b,c,d]::ks) r.next m=decide (r.next+1+ai b+ai c<=m):=by
     rw[kP,if_pos C];have:decide ((ae.node 5 x a e [b,c,d]).kind=5)=true:=rfl;rw[this,Bool.true_and];rfl
    rw[I];by_cases J:r.next+1+ai b+ai c<=m
    ·rw[if_pos (decide_eq_true J)]
     exact R3 J
    ·rw[if_neg (by simpa using J)]
     exact R4 (by omega)
  obtain⟨W,K2⟩:=S;rw[u];obtain⟨U,T2,T3⟩:=UQ y A ks (fun c O=>hk c (by simp[O])) (j+1) (aM G false k [] r).1 (bR GW mk k o [] { q with num:=q.num+1 }).1 o (aac V Y.next) W.num W.qK;have L:=fF G ks false 0 ks.length [] (aM G false k [] r).1;refine⟨⟨U.qK,W.aR.trans U.aR Y L,U.num⟩,by rw[T2,K,aD];omega,fun m H C=>?_⟩;by_cases R:m<r.next+ai k
  ·have F:=K2 m H R
   rw[L.aR m (.inl (by omega))];by_cases I:kP (k::ks) r.next m=true
   ·rw[if_pos I]at F⊢
    obtain⟨N,B,c1,c2,c3⟩:=F;refine⟨N,B,c1,c2.mono L.grow,fun g=>?_⟩
    rw[U.aR.out fun m' e' hh=>by rw[g]at e';have:m=m':=(by omega);omega]
    exact c3 g
   ·rw[if_neg I]at F⊢
    exact F
  ·have I:kP (k::ks) r.next m=kP ks (aM G false k [] r).1.next m:=by rw[kP,if_neg R,K]
   rw[I];have:=T3 m (by omega) C;by_cases P:kP ks (aM G false k [] r).1.next m=true
   ·rw[if_pos P]at this⊢
    exact this
   ·rw[if_neg P]at this⊢
    rw[this,Y.aR m (.inr (by omega))]
end
end Go.Proofs.YtoepemlnlpamlaaGreat
