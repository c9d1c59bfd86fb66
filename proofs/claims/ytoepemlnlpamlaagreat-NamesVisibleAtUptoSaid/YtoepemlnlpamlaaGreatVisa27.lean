/- The law NamesVisibleAt holds where what it reads is of bulk at most 1048576: it returns true, and its arguments read as before. Part 27: VisA0 VisA1 VisA2 VisA3 VisB0 VisB1 VisB2 VisB3 VisX. -/
import Derived.Test.YtoepemlnlpamlaaGreatVisa13
import Derived.Test.YtoepemlnlpamlaaGreatVisa26
set_option maxRecDepth 100000
set_option maxHeartbeats 4000000
namespace Go.Proofs.YtoepemlnlpamlaaGreat
open Go.RowKit
theorem Ui(E:RC)(G:bC)(B:Nat)(hB:B<=E.base)(k:Int)(x:ByteArray)(a e:Int)(C:List ae)(W:∀k∈C,gF E G B k)(b:¬k=3)(hk4:¬k=4)(z:¬k=5)(hk7:¬k=7)(BG:¬k=8)(KJ:¬k=11)(qg:¬k=12)(qf:¬k=16)(EO:¬k=20)(Y:¬k=22)(Z:¬k=27)(X:¬k=19)(wU:¬k=9):gF E G B (.node k x a e C):=by
 intro i s p ms r V w A c h hs L hk K F hv P;obtain⟨R,J⟩:∃q,C.length=q:=⟨_,rfl⟩
 have n:mG s.isEmpty C=true:=by
  rw[qA,if_neg z,if_neg KJ,if_neg (by omega)]at hv;exact hv
 have hq:aM G i (ae.node k x a e C) s r=ah G i C 0 C.length s (iR G s r (aG r i (ak (ay s))) (ae.node k x a e C)):=by
  rw[dx,if_neg b,if_neg hk4,if_neg z,if_neg (by omega),if_neg KJ,if_neg qg,if_neg qf]
 rw[hq];obtain⟨Q,f⟩:∃Q,ah G i C 0 C.length s (iR G s r (aG r i (ak (ay s))) (ae.node k x a e C))=Q:=⟨_,rfl⟩
 rw[f];have HQ:=kH f;clear hq f;rw[show aZ (ae.node k x a e C) A c= .agg #[.int .i64 k,.string x,.int .i64 a,.int .i64 e,.slice A R c] by rw[<- J];rfl];obtain⟨nx,m,y,xL,rU,hrw,hwn,d⟩:=DR h P J;have H:=kH h;have HS:=kH hs;have HK:Hid (aJ w B A 0 C):=kH hk;have l:=kH P;have fK:=kH J;have lS:=kH n;have fE:=kH W;have S:Hid (R<=c):=kH (by rw[<- J];exact K);have dG:=kH F;clear h hs hk P J n W hv K F;go_in
 go_upto_if 32 with fail
 generalize U:World.alloc (World.alloc (World.setCell w _ _) _) _=W3
 obtain⟨D,gT,iW,jA,iQ,c5,p0,qN,rM⟩:=DN H HS U;clear U rU d;go_cut [] (fun wx=> ∃Vx,Hid (aX E G (aG r i (ak (ay s))) Vx wx)/\Hid (KX E (fun g=>g=E.vi) W3 wx))
 case first=>
  cases i with
  | false=>
   go_wp2_with fail
   go_meet
   exact⟨V,by have:=D.out;rw[<- m.out]at this;exact kH this,kH (KX.refl _ _ _)⟩
  | true=>
   obtain⟨iT,eY,u⟩:=DL D iQ iW l m y;go_wp2_with fail
   go_region_held3 (fun w'=>w'.cell? ⟨E.rp,5,none⟩=some (.map (some E.vi))/\w'.cell? ⟨w.heap.size,0,none⟩=some (.pointer (some ⟨E.rp,0,none⟩))) (exact eY.out _ (by assumption)) ((go_at_call 145;refine iT.out.mono ?_;rintro e5 w5 ⟨v5,rfl,jI,O⟩;obtain⟨hs5,w6,v,lW,hs7⟩:=DK D O u v5))
   have HX:=kH (DJ D gT l m dG O jI lW);clear hs5 hs7 lW O jI u v;go_wp2_with fail
   go_meet
   exact HX.out
 case rest=>
  obtain⟨Vx,gY,ny⟩:=hcut;obtain⟨HV,HD,qW,HU,sN⟩:=DI hB L gY ny D gT iW jA iQ HK l m dG y;obtain⟨gi,gb,vC,Ag,hlk⟩:=DF gY x;obtain⟨⟨q0,lp⟩,⟨n0,n1,n2,n3,n4,ln⟩,⟨c0,c1,c2,c8,lr⟩⟩:=HV.out.cells;clear c5 p0 qN rM c8
  have hu:iR G s r (aG r i (ak (ay s))) (ae.node k x a e C)=(aG r i (ak (ay s))):=by
   unfold iR;show(if k=20 then _ else if k=22 then _ else if k=27 then _ else if k=19 then _ else if k=9/\dM x=false then _ else _)=_;rw[if_neg EO,if_neg Y,if_neg Z,if_neg X,if_neg (fun(h:k=9/\dM x=false)=>wU h.1)]
  have I:=fun q=>(HV.out.drewN q).kids fE.out i 0 R R (by omega) fK.out (by show 0+R<=R;omega) S.out lS.out (l.out.kids (t:=(ae.node k x a e C)) (dQ.none_ r i _) (Nat.add_le_add_left (Nat.le_succ _) _) (sN.out _ rfl)) L (fun g hg=>.inl hg)
  have jJ:ah G i C 0 R s (aG r i (ak (ay s)))=Q:=by rw[<- HQ.out,hu,fK.out]
  have lI:=kH jJ;have Ii:=kH I;clear I jJ hu;go_wp2_with fail
  go_quiet (fail)
  go_wp2_with fail
  refine(Ii.out _).mono ?_;rintro e10 j ⟨rfl,-,zC,T⟩;have HE:Hid (∃V',aX E G Q.1 V' j/\bL j E.base p Q.2 ms/\KX E (fun g=>g=E.vi\/ms.head? =some g) w j):=kH (by rw[<- lI.out];exact T.end_);clear T Ii;go_wp2_with fail
  go_end0
  exact⟨rfl,HE.out⟩
theorem Wt(E:RC)(G:bC)(B:Nat)(hB:B<=E.base)(x:ByteArray)(a e:Int)(C:List ae)(z:∀k∈C,gF E G B k):gF E G B (.node 20 x a e C):=by
 intro i s p ms r V w A c h hs P l O J hv T;obtain⟨U,K⟩:∃q,C.length=q:=⟨_,rfl⟩
 have n:mG s.isEmpty C=true:=by
  rw[qA,if_neg (by decide),if_neg (by decide),if_neg (by decide)]at hv;exact hv
 have hq:aM G i (ae.node 20 x a e C) s r=ah G i C 0 C.length s (iR G s r (aG r i (ak (ay s))) (ae.node 20 x a e C)):=by
  rw[dx];repeat (rw[if_neg (by decide)])
 rw[hq];obtain⟨Q,hQ⟩:∃Q,ah G i C 0 C.length s (iR G s r (aG r i (ak (ay s))) (ae.node 20 x a e C))=Q:=⟨_,rfl⟩
 rw[hQ];have HQ:=kH hQ;clear hq hQ;rw[show aZ (ae.node 20 x a e C) A c= .agg #[.int .i64 20,.string x,.int .i64 a,.int .i64 e,.slice A U c] by rw[<- K];rfl];obtain⟨j,W,y,xL,rU,hrw,hwn,hfx⟩:=DR h T K;have H:=kH h;have HS:=kH hs;have HK:Hid (aJ w B A 0 C):=kH l;have m:=kH T;have fK:=kH K;have lS:=kH n;have fE:=kH z;have X:Hid (U<=c):=kH (by rw[<- K];exact O);have dG:=kH J;clear h hs l T K n z hv O J;go_in
 go_upto_if 32 with fail
 generalize Z:World.alloc (World.alloc (World.setCell w _ _) _) _=W3
 obtain⟨I,gT,iW,jA,iQ,c5,p0,qN,rM⟩:=DN H HS Z;clear Z rU hfx;go_cut [] (fun wx=> ∃Vx,Hid (aX E G (aG r i (ak (ay s))) Vx wx)/\Hid (KX E (fun g=>g=E.vi) W3 wx))
 case first=>
  cases i with
  | false=>
   go_wp2_with fail
   go_meet
   exact⟨V,by have:=I.out;rw[<- W.out]at this;exact kH this,kH (KX.refl _ _ _)⟩
  | true=>
   obtain⟨iT,eY,u⟩:=DL I iQ iW m W y;go_wp2_with fail
   go_region_held3 (fun w'=>w'.cell? ⟨E.rp,5,none⟩=some (.map (some E.vi))/\w'.cell? ⟨w.heap.size,0,none⟩=some (.pointer (some ⟨E.rp,0,none⟩))) (exact eY.out _ (by assumption)) ((go_at_call 145;refine iT.out.mono ?_;rintro e5 w5 ⟨v5,rfl,jI,R⟩;obtain⟨hs5,w6,v,lW,hs7⟩:=DK I R u v5))
   have HX:=kH (DJ I gT m W dG R jI lW);clear hs5 hs7 lW R jI u v;go_wp2_with fail
   go_meet
   exact HX.out
 case rest=>
  obtain⟨Vx,gY,ny⟩:=hcut;obtain⟨d,HD,qW,HU,sN⟩:=DI hB P gY ny I gT iW jA iQ HK m W dG y;obtain⟨gi,gb,vC,Ag,hlk⟩:=DF gY x;obtain⟨⟨q0,lp⟩,⟨n0,n1,n2,n3,n4,ln⟩,⟨c0,c1,c2,c8,lr⟩⟩:=d.out.cells;clear c5 p0 qN rM c8;obtain⟨L,f⟩:∃L,fe s x=L:=⟨_,rfl⟩
  have HTQ:=kH f
  have jJ:ah G i C 0 U s (gV (aG r i (ak (ay s))) j (ae.node 20 x a e C) L)=Q:=by
   rw[<- HQ.out,fK.out,<- f,<- W.out];rfl
  have lI:=kH jJ;have qo:Hid (rX r (gV (aG r i (ak (ay s))) j (ae.node 20 x a e C) L)):=kH (by have:=dQ.Ev r i (ak (ay s)) (ae.node 20 x a e C) L;rw[W.out]at this;exact this);have fH:Hid ((gV (aG r i (ak (ay s))) j (ae.node 20 x a e C) L).next=r.next+1):=kH (by cases L<;>rfl);clear jJ;have F:=fun q=>K3 E.base x (wc.drewN q) s p ms ((d.out.drewN q).S)
  have oo:=fun q=>(d.out.drewN q).JU (ae.node 20 x a e C) ⟨rfl,rfl,rfl,rfl,rfl⟩ fK.out qW.out j HU.out L (L.getD 0) (fun k l=>by rw[l];rfl)
  rw[f]at F;have HF:=kH F;have qC:=kH oo;clear F oo f;go_wp2_with fail
  go_quiet (fail)
  go_wp2_with fail
  refine(HF.out _).mono ?_;rintro e7 w7 ⟨rfl,hw7⟩;subst hw7;go_wp2_with fail
  refine(qC.out _).mono ?_;rintro e8 w8 ⟨rfl,V8,h8⟩;obtain⟨⟨q8,BB⟩,⟨-,-,-,-,n8,Jh⟩,-⟩:=h8.cells;have D:=h8.kids fE.out i 0 U U (by omega) fK.out (by show 0+U<=U;omega) X.out lS.out (m.out.kids (t:=(ae.node 20 x a e C)) qo.out (Nat.add_le_add_left qo.out.next _) (sN.out _ fH.out)) P (fun g hg=>.inl hg);rw[lI.out]at D;have HC:=kH D;clear D h8;go_wp2_with fail
  refine HC.out.mono ?_;rintro e10 b ⟨rfl,-,zC,Y⟩;have HE:Hid (∃V',aX E G Q.1 V' b/\bL b E.base p Q.2 ms/\KX E (fun g=>g=E.vi\/ms.head? =some g) w b):=kH Y.end_;clear Y HC q8 n8;go_wp2_with fail
  go_end0
  exact⟨rfl,HE.out⟩
theorem Wv(E:RC)(G:bC)(B:Nat)(hB:B<=E.base)(x:ByteArray)(a e:Int)(C:List ae)(Y:∀k∈C,gF E G B k):gF E G B (.node 27 x a e C):=by
 intro i s p ms r V w A c h hs O m L I hv R;obtain⟨S,J⟩:∃q,C.length=q:=⟨_,rfl⟩
 have v:mG s.isEmpty C=true:=by
  rw[qA,if_neg (by decide),if_neg (by decide),if_neg (by decide)]at hv;exact hv
 have hq:aM G i (ae.node 27 x a e C) s r=ah G i C 0 C.length s (iR G s r (aG r i (ak (ay s))) (ae.node 27 x a e C)):=by
  rw[dx];repeat (rw[if_neg (by decide)])
 rw[hq];obtain⟨Q,b⟩:∃Q,ah G i C 0 C.length s (iR G s r (aG r i (ak (ay s))) (ae.node 27 x a e C))=Q:=⟨_,rfl⟩
 rw[b];have HQ:=kH b;clear hq b;rw[show aZ (ae.node 27 x a e C) A c= .agg #[.int .i64 27,.string x,.int .i64 a,.int .i64 e,.slice A S c] by rw[<- J];rfl];obtain⟨l,T,Z,xL,rU,hrw,hwn,hfx⟩:=DR h R J;have H:=kH h;have HS:=kH hs;have HK:Hid (aJ w B A 0 C):=kH m;have n:=kH R;have f:=kH J;have lS:=kH v;have fE:=kH Y;have U:Hid (S<=c):=kH (by rw[<- J];exact L);have dG:=kH I;clear h hs m R J v Y hv L I;go_in
 go_upto_if 32 with fail
 generalize X:World.alloc (World.alloc (World.setCell w _ _) _) _=W3
 obtain⟨F,gT,iW,jA,iQ,c5,p0,qN,rM⟩:=DN H HS X;clear X rU hfx;go_cut [] (fun wx=> ∃Vx,Hid (aX E G (aG r i (ak (ay s))) Vx wx)/\Hid (KX E (fun g=>g=E.vi) W3 wx))
 case first=>
  cases i with
  | false=>
   go_wp2_with fail
   go_meet
   exact⟨V,by have:=F.out;rw[<- T.out]at this;exact kH this,kH (KX.refl _ _ _)⟩
  | true=>
   obtain⟨iT,eY,y⟩:=DL F iQ iW n T Z;go_wp2_with fail
   go_region_held3 (fun w'=>w'.cell? ⟨E.rp,5,none⟩=some (.map (some E.vi))/\w'.cell? ⟨w.heap.size,0,none⟩=some (.pointer (some ⟨E.rp,0,none⟩))) (exact eY.out _ (by assumption)) ((go_at_call 145;refine iT.out.mono ?_;rintro e5 w5 ⟨v5,rfl,jI,P⟩;obtain⟨hs5,w6,z,lW,hs7⟩:=DK F P y v5))
   have HX:=kH (DJ F gT n T dG P jI lW);clear hs5 hs7 lW P jI y z;go_wp2_with fail
   go_meet
   exact HX.out
 case rest=>
  obtain⟨Vx,gY,ny⟩:=hcut;obtain⟨HV,HD,qW,HU,sN⟩:=DI hB O gY ny F gT iW jA iQ HK n T dG Z;obtain⟨gi,gb,vC,Ag,hlk⟩:=DF gY x;obtain⟨⟨q0,lp⟩,⟨n0,n1,n2,n3,n4,ln⟩,⟨c0,c1,c2,c8,lr⟩⟩:=HV.out.cells;clear c5 p0 qN rM c8;obtain⟨K,u⟩:∃K,aU G.globals x=K:=⟨_,rfl⟩
  have HTQ:=kH u
  have jJ:ah G i C 0 S s (gV (aG r i (ak (ay s))) l (ae.node 27 x a e C) K)=Q:=by
   rw[<- HQ.out,f.out,<- u,<- T.out];rfl
  have lI:=kH jJ;have qo:Hid (rX r (gV (aG r i (ak (ay s))) l (ae.node 27 x a e C) K)):=kH (by have:=dQ.Ev r i (ak (ay s)) (ae.node 27 x a e C) K;rw[T.out]at this;exact this);have fH:Hid ((gV (aG r i (ak (ay s))) l (ae.node 27 x a e C) K).next=r.next+1):=kH (by cases K<;>rfl);clear jJ;have oo:=fun q=>(HV.out.drewN q).JU (ae.node 27 x a e C) ⟨rfl,rfl,rfl,rfl,rfl⟩ f.out qW.out l HU.out K (K.getD 0) (fun k m=>by rw[m];rfl)
  have e1:K.getD 0=gi:=by rw[<- vC.out,<- u]
  have e2:K.isSome=gb:=by rw[<- Ag.out,<- u]
  rw[e1,e2]at oo;have qC:=kH oo;clear oo u e1 e2;go_wp2_with fail
  go_quiet (fail)
  go_wp2_with fail
  refine(qC.out _).mono ?_;rintro e8 w8 ⟨rfl,V8,d⟩;obtain⟨⟨q8,BB⟩,⟨-,-,-,-,n8,Jh⟩,-⟩:=d.cells;have D:=d.kids fE.out i 0 S S (by omega) f.out (by show 0+S<=S;omega) U.out lS.out (n.out.kids (t:=(ae.node 27 x a e C)) qo.out (Nat.add_le_add_left qo.out.next _) (sN.out _ fH.out)) O (fun g hg=>.inl hg);rw[lI.out]at D;have HC:=kH D;clear D d;go_wp2_with fail
  refine HC.out.mono ?_;rintro e10 j ⟨rfl,-,zC,W⟩;have HE:Hid (∃V',aX E G Q.1 V' j/\bL j E.base p Q.2 ms/\KX E (fun g=>g=E.vi\/ms.head? =some g) w j):=kH W.end_;clear W HC q8 n8;go_wp2_with fail
  go_end0
  exact⟨rfl,HE.out⟩
theorem Qx(E:RC)(G:bC)(B:Nat)(hB:B<=E.base)(x:ByteArray)(a e:Int)(C:List ae)(Y:∀k∈C,gF E G B k):gF E G B (.node 22 x a e C):=by
 intro i s p ms r V w A c h hs O d L J hv R;obtain⟨S,K⟩:∃q,C.length=q:=⟨_,rfl⟩
 have m:mG s.isEmpty C=true:=by
  rw[qA,if_neg (by decide),if_neg (by decide),if_neg (by decide)]at hv;exact hv
 have hq:aM G i (ae.node 22 x a e C) s r=ah G i C 0 C.length s (iR G s r (aG r i (ak (ay s))) (ae.node 22 x a e C)):=by
  rw[dx];repeat (rw[if_neg (by decide)])
 rw[hq];obtain⟨Q,hQ⟩:∃Q,ah G i C 0 C.length s (iR G s r (aG r i (ak (ay s))) (ae.node 22 x a e C))=Q:=⟨_,rfl⟩
 rw[hQ];have HQ:=kH hQ;clear hq hQ;rw[show aZ (ae.node 22 x a e C) A c= .agg #[.int .i64 22,.string x,.int .i64 a,.int .i64 e,.slice A S c] by rw[<- K];rfl];obtain⟨b,T,z,xL,rU,hrw,hwn,hfx⟩:=DR h R K;have H:=kH h;have HS:=kH hs;have HK:Hid (aJ w B A 0 C):=kH d;have l:=kH R;have fK:=kH K;have lS:=kH m;have fE:=kH Y;have U:Hid (S<=c):=kH (by rw[<- K];exact L);have dG:=kH J;clear h hs d R K m Y hv L J;go_in
 go_upto_if 32 with fail
 generalize X:World.alloc (World.alloc (World.setCell w _ _) _) _=W3
 obtain⟨I,gT,iW,jA,iQ,c5,p0,qN,rM⟩:=DN H HS X;clear X rU hfx;go_cut [] (fun wx=> ∃Vx,Hid (aX E G (aG r i (ak (ay s))) Vx wx)/\Hid (KX E (fun g=>g=E.vi) W3 wx))
 case first=>
  cases i with
  | false=>
   go_wp2_with fail
   go_meet
   exact⟨V,by have:=I.out;rw[<- T.out]at this;exact kH this,kH (KX.refl _ _ _)⟩
  | true=>
   obtain⟨iT,eY,v⟩:=DL I iQ iW l T z;go_wp2_with fail
   go_region_held3 (fun w'=>w'.cell? ⟨E.rp,5,none⟩=some (.map (some E.vi))/\w'.cell? ⟨w.heap.size,0,none⟩=some (.pointer (some ⟨E.rp,0,none⟩))) (exact eY.out _ (by assumption)) ((go_at_call 145;refine iT.out.mono ?_;rintro e5 w5 ⟨v5,rfl,jI,P⟩;obtain⟨hs5,w6,y,lW,hs7⟩:=DK I P v v5))
   have HX:=kH (DJ I gT l T dG P jI lW);clear hs5 hs7 lW P jI v y;go_wp2_with fail
   go_meet
   exact HX.out
 case rest=>
  obtain⟨Vx,j,ny⟩:=hcut;obtain⟨HV,HD,qW,HU,sN⟩:=DI hB O j ny I gT iW jA iQ HK l T dG z;obtain⟨gi,gb,vC,Ag,hlk⟩:=DF j x;obtain⟨⟨q0,lp⟩,⟨n0,n1,n2,n3,n4,ln⟩,⟨c0,c1,c2,c8,lr⟩⟩:=HV.out.cells;clear c5 p0 qN rM c8;obtain⟨F,rO⟩:∃F,aU G.fields x=F:=⟨_,rfl⟩
  have HTQ:=kH rO
  have jJ:ah G i C 0 S s (gV (aG r i (ak (ay s))) b (ae.node 22 x a e C) F)=Q:=by
   rw[<- HQ.out,fK.out,<- rO,<- T.out];rfl
  have lI:=kH jJ;have qo:Hid (rX r (gV (aG r i (ak (ay s))) b (ae.node 22 x a e C) F)):=kH (by have:=dQ.Ev r i (ak (ay s)) (ae.node 22 x a e C) F;rw[T.out]at this;exact this);have fH:Hid ((gV (aG r i (ak (ay s))) b (ae.node 22 x a e C) F).next=r.next+1):=kH (by cases F<;>rfl);clear jJ;have oo:=fun q=>(HV.out.drewN q).JU (ae.node 22 x a e C) ⟨rfl,rfl,rfl,rfl,rfl⟩ fK.out qW.out b HU.out F (F.getD 0) (fun k d=>by rw[d];rfl)
  have Z:=fun q q'=>qa ((wc.drewN q).drewN q') E.f G.fields (bA.drewN (bA.drewN j.out.fl q) q') x
  have xO:=fun q=>qa (wc.drewN q) E.f G.fields (bA.drewN j.out.fl q) x
  rw[show bE G.fields x=F from rO]at Z xO;obtain⟨ti,n⟩:∃q,F.getD 0=q:=⟨_,rfl⟩
  obtain⟨tb,u⟩:∃q,F.isSome=q:=⟨_,rfl⟩
  rw[n,u]at Z xO oo;have qC:=kH oo;clear oo rO n u;go_wp2_with fail
  go_quiet (fail)
  go_wp2_with fail
  go_quiet (fail)
  go_wp2_with fail
  refine(qC.out _).mono ?_;rintro e8 w8 ⟨rfl,V8,h8⟩;obtain⟨⟨q8,BB⟩,⟨-,-,-,-,n8,Jh⟩,-⟩:=h8.cells;have D:=h8.kids fE.out i 0 S S (by omega) fK.out (by show 0+S<=S;omega) U.out lS.out (l.out.kids (t:=(ae.node 22 x a e C)) qo.out (Nat.add_le_add_left qo.out.next _) (sN.out _ fH.out)) O (fun g hg=>.inl hg);rw[lI.out]at D;have HC:=kH D;clear D h8;go_wp2_with fail
  refine HC.out.mono ?_;rintro e10 aV ⟨rfl,-,zC,W⟩;have HE:Hid (∃V',aX E G Q.1 V' aV/\bL aV E.base p Q.2 ms/\KX E (fun g=>g=E.vi\/ms.head? =some g) w aV):=kH W.end_;clear W HC q8 n8;go_wp2_with fail
  go_end0
  exact⟨rfl,HE.out⟩
theorem Uj(E:RC)(G:bC)(B:Nat)(hB:B<=E.base)(x:ByteArray)(a e:Int)(C:List ae)(u:∀k∈C,gF E G B k):gF E G B (.node 4 x a e C):=by
 intro i s p ms r V w A c h hs T hk P I Z Y;obtain⟨K,J⟩:∃q,C.length=q:=⟨_,rfl⟩
 have j:mG s.isEmpty C=true:=by
  rw[qA,if_neg (by decide),if_neg (by decide),if_neg (by decide)]at Z;exact Z
 have hq:aM G i (ae.node 4 x a e C) s r=ah G i C 0 C.length s (aW (aG r i (ak (ay s))) 1 r.next (ae.node 4 x a e C) (decide ((aU G.fields x).getD 0≠(r.next:Int)))):=by
  rw[dx,if_neg (by decide),if_pos rfl]
 rw[hq];obtain⟨Q,hQ⟩:∃Q,ah G i C 0 C.length s (aW (aG r i (ak (ay s))) 1 r.next (ae.node 4 x a e C) (decide ((aU G.fields x).getD 0≠(r.next:Int))))=Q:=⟨_,rfl⟩
 rw[hQ];have HQ:=kH hQ;clear hq hQ;rw[show aZ (ae.node 4 x a e C) A c= .agg #[.int .i64 4,.string x,.int .i64 a,.int .i64 e,.slice A K c] by rw[<- J];rfl];obtain⟨O,U,n,xL,rU,hrw,hwn,hfx⟩:=DR h Y J;have H:=kH h;have HS:=kH hs;have HK:Hid (aJ w B A 0 C):=kH hk;have d:=kH Y;have fK:=kH J;have lS:=kH j;have fE:=kH u;have z:Hid (K<=c):=kH (by rw[<- J];exact P);have dG:=kH I;clear h hs hk Y J j u Z P I;go_in
 go_upto_if 32 with fail
 generalize v:World.alloc (World.alloc (World.setCell w _ _) _) _=W3
 obtain⟨F,gT,iW,jA,iQ,c5,p0,qN,rM⟩:=DN H HS v;clear v rU hfx;go_cut [] (fun wx=> ∃Vx,Hid (aX E G (aG r i (ak (ay s))) Vx wx)/\Hid (KX E (fun g=>g=E.vi) W3 wx))
 case first=>
  cases i with
  | false=>
   go_wp2_with fail
   go_meet
   exact⟨V,by have:=F.out;rw[<- U.out]at this;exact kH this,kH (KX.refl _ _ _)⟩
  | true=>
   obtain⟨iT,b,l⟩:=DL F iQ iW d U n;go_wp2_with fail
   go_region_held3 (fun w'=>w'.cell? ⟨E.rp,5,none⟩=some (.map (some E.vi))/\w'.cell? ⟨w.heap.size,0,none⟩=some (.pointer (some ⟨E.rp,0,none⟩))) (exact b.out _ (by assumption)) ((go_at_call 145;refine iT.out.mono ?_;rintro e5 w5 ⟨v5,rfl,jI,X⟩;obtain⟨hs5,w6,m,lW,hs7⟩:=DK F X l v5))
   have HX:=kH (DJ F gT d U dG X jI lW);clear hs5 hs7 lW X jI l m;go_wp2_with fail
   go_meet
   exact HX.out
 case rest=>
  obtain⟨Vx,gY,ny⟩:=hcut;obtain⟨HV,HD,qW,HU,sN⟩:=DI hB T gY ny F gT iW jA iQ HK d U dG n;obtain⟨gi,gb,vC,Ag,hlk⟩:=DF gY x;obtain⟨⟨q0,lp⟩,⟨n0,n1,n2,n3,n4,ln⟩,⟨c0,c1,c2,c8,lr⟩⟩:=HV.out.cells;clear c5 p0 qN rM c8;obtain⟨W,L⟩:∃q,(bE G.fields x).getD 0=q:=⟨_,rfl⟩
  have jJ:ah G i C 0 K s (aW (aG r i (ak (ay s))) 1 O (ae.node 4 x a e C) (W !=(O:Int)))=Q:=by
   rw[<- HQ.out,fK.out,<- U.out,Tn,<- L]
  have lI:=kH jJ;have qo:Hid (rX r (aW (aG r i (ak (ay s))) 1 O (ae.node 4 x a e C) (W !=(O:Int)))):=kH (by have:=dQ.declare r i (ak (ay s)) 1 (ae.node 4 x a e C) (W !=(O:Int));rw[U.out]at this;exact this);have fH:Hid ((aW (aG r i (ak (ay s))) 1 O (ae.node 4 x a e C) (W !=(O:Int))).next=r.next+1):=kH (by have:=sJ r i (ak (ay s)) 1 (ae.node 4 x a e C) (W !=(O:Int));rw[U.out]at this⊢;exact this)
  have jy:∀r' V' w',VW E G B ⟨C,4,x,a,e,A,K,c,w.heap.size+1,w.heap.size⟩ w (fun g=>g=E.vi\/ms.head? =some g) r' V' s p ms w'->(w'.cell? ⟨w.heap.size,0,none⟩=some (.pointer (some ⟨E.rp,0,none⟩))/\w'.cell? ⟨w.heap.size+1,0,none⟩=some (.int .i64 4)/\w'.cell? ⟨w.heap.size+1,1,none⟩=some (.string x)/\w'.cell? ⟨w.heap.size+1,2,none⟩=some (.int .i64 a)/\w'.cell? ⟨w.heap.size+1,3,none⟩=some (.int .i64 e)/\w'.cell? ⟨w.heap.size+1,4,none⟩=some (.slice A K c)/\w'.cell? ⟨E.rp,1,none⟩=some (.map (some E.f))/\(Instr.lookup 70 (.map (some E.f)) (.string x) false).run Tryz.prog w'= .ok (.int .i64 W) w'):=fun r' V' w' Z=>by
   obtain⟨⟨y0,-⟩,⟨z0,z1,z2,z3,z4,-⟩,⟨-,d1,-,-,-⟩⟩:=Z.cells;exact⟨y0,z0,z1,z2,z3,z4,d1,by have:=Mm w' E.f G.fields Z.R.fl x;rw[L]at this;exact this⟩
  have b:=kH jy;have S:=fun q al=>((HV.out.drewN q).drew).Tj (ae.node 4 x a e C) ⟨rfl,rfl,rfl,rfl,rfl⟩ fK.out HD.out qW.out 1 O HU.out al
  have OQ:=fun q=>(HV.out.drewN q).drew
  have TG:=kH OQ;have Ih:=kH S;have hlf:=fun q=>Mm (wc.drewN q) E.f G.fields (bA.drewN gY.out.fl q) x
  rw[L]at hlf;clear jy S OQ jJ L;go_wp2_with fail
  go_quiet (fail)
  go_wp2_with fail
  go_region_held3 (fun w'=>(w'.cell? ⟨w.heap.size,0,none⟩=some (.pointer (some ⟨E.rp,0,none⟩))/\w'.cell? ⟨w.heap.size+1,0,none⟩=some (.int .i64 4)/\w'.cell? ⟨w.heap.size+1,1,none⟩=some (.string x)/\w'.cell? ⟨w.heap.size+1,2,none⟩=some (.int .i64 a)/\w'.cell? ⟨w.heap.size+1,3,none⟩=some (.int .i64 e)/\w'.cell? ⟨w.heap.size+1,4,none⟩=some (.slice A K c)/\w'.cell? ⟨E.rp,1,none⟩=some (.map (some E.f))/\(Instr.lookup 70 (.map (some E.f)) (.string x) false).run Tryz.prog w'= .ok (.int .i64 W) w')) (first|exact b.out _ _ _ (TG.out _)|exact b.out _ _ _ (by assumption)) ((go_at_call 147;refine(Ih.out _ _).mono ?_;rintro e8 w8 ⟨rfl,V8,h8⟩))
  obtain⟨⟨q8,BB⟩,⟨-,-,-,-,n8,Jh⟩,-⟩:=h8.cells;have D:=h8.kids fE.out i 0 K K (by omega) fK.out (by show 0+K<=K;omega) z.out lS.out (d.out.kids (t:=(ae.node 4 x a e C)) qo.out (Nat.add_le_add_left qo.out.next _) (sN.out _ fH.out)) T (fun g hg=>.inl hg);rw[lI.out]at D;have HC:=kH D;clear D h8;go_wp2_with fail
  refine HC.out.mono ?_;rintro e10 aV ⟨rfl,-,zC,y⟩;have HE:Hid (∃V',aX E G Q.1 V' aV/\bL aV E.base p Q.2 ms/\KX E (fun g=>g=E.vi\/ms.head? =some g) w aV):=kH y.end_;clear y HC q8 n8;go_wp2_with fail
  go_end0
  exact⟨rfl,HE.out⟩
theorem Uh(E:RC)(G:bC)(B:Nat)(hB:B<=E.base)(x:ByteArray)(a e:Int)(C:List ae)(y:∀k∈C,gF E G B k):gF E G B (.node 7 x a e C):=by
 intro i s p ms r V w A c h hs K hk P I j U;obtain⟨W,J⟩:∃q,C.length=q:=⟨_,rfl⟩
 have f:s.isEmpty=false/\mG s.isEmpty C=true:=by
  rw[qA,if_neg (by decide),if_neg (by decide),if_pos (by decide)]at j;simp only[aad,Bool.not_eq_true']at j;exact⟨j.1.1.1,j.2⟩
 have hq:aM G i (ae.node 7 x a e C) s r=ah G i C 0 C.length (aH G (aG r i (ak (ay s))) 3 r.next (ae.node 7 x a e C) s).2 (aH G (aG r i (ak (ay s))) 3 r.next (ae.node 7 x a e C) s).1:=by
  rw[dx,if_neg (by decide),if_neg (by decide),if_neg (by decide),if_pos (by decide)]
 rw[hq];obtain⟨Q,hQ⟩:∃Q,ah G i C 0 C.length (aH G (aG r i (ak (ay s))) 3 r.next (ae.node 7 x a e C) s).2 (aH G (aG r i (ak (ay s))) 3 r.next (ae.node 7 x a e C) s).1=Q:=⟨_,rfl⟩
 rw[hQ];have HQ:=kH hQ;clear hq hQ;rw[show aZ (ae.node 7 x a e C) A c= .agg #[.int .i64 7,.string x,.int .i64 a,.int .i64 e,.slice A W c] by rw[<- J];rfl];obtain⟨X,R,v,xL,rU,hrw,hwn,hfx⟩:=DR h U J;have H:=kH h;have HS:=kH hs;have HK:Hid (aJ w B A 0 C):=kH hk;have dS:=kH U;have fK:=kH J;have lS:=kH f;have fE:=kH y;have Y:Hid (W<=c):=kH (by rw[<- J];exact P);have dG:=kH I;clear h hs hk U J f y j P I;go_in
 go_upto_if 32 with fail
 generalize z:World.alloc (World.alloc (World.setCell w _ _) _) _=W3
 obtain⟨F,gT,iW,jA,iQ,c5,p0,qN,rM⟩:=DN H HS z;clear z rU hfx;go_cut [] (fun wx=> ∃Vx,Hid (aX E G (aG r i (ak (ay s))) Vx wx)/\Hid (KX E (fun g=>g=E.vi) W3 wx))
 case first=>
  cases i with
  | false=>
   go_wp2_with fail
   go_meet
   exact⟨V,by have:=F.out;rw[<- R.out]at this;exact kH this,kH (KX.refl _ _ _)⟩
  | true=>
   obtain⟨iT,eY,n⟩:=DL F iQ iW dS R v;go_wp2_with fail
   go_region_held3 (fun w'=>w'.cell? ⟨E.rp,5,none⟩=some (.map (some E.vi))/\w'.cell? ⟨w.heap.size,0,none⟩=some (.pointer (some ⟨E.rp,0,none⟩))) (exact eY.out _ (by assumption)) ((go_at_call 145;refine iT.out.mono ?_;rintro e5 w5 ⟨v5,rfl,jI,T⟩;obtain⟨hs5,w6,u,lW,hs7⟩:=DK F T n v5))
   have HX:=kH (DJ F gT dS R dG T jI lW);clear hs5 hs7 lW T jI n u;go_wp2_with fail
   go_meet
   exact HX.out
 case rest=>
  obtain⟨Vx,gY,ny⟩:=hcut;obtain⟨HV,HD,qW,HU,sN⟩:=DI hB K gY ny F gT iW jA iQ HK dS R dG v;obtain⟨gi,gb,vC,Ag,hlk⟩:=DF gY x;obtain⟨⟨q0,lp⟩,⟨n0,n1,n2,n3,n4,ln⟩,⟨c0,c1,c2,c8,lr⟩⟩:=HV.out.cells;clear c5 p0 qN rM c8
  obtain⟨l,d,O⟩:∃l d,s=l::d:=by
   have:=lS.out.1
   cases s with
   | nil=>cases this
   | cons l d=>exact⟨l,d,rfl⟩
  obtain⟨m,xC,xM⟩:∃m xC,ms=m::xC:=by
   have h1:=HV.out.S;rw[O]at h1;obtain⟨b,m,p',ms',h2,h3,-⟩:=h1;exact⟨m,ms',h3⟩
  have jJ:ah G i C 0 W (aH G (aG r i (ak (ay s))) 3 X (ae.node 7 x a e C) s).2 (aH G (aG r i (ak (ay s))) 3 X (ae.node 7 x a e C) s).1=Q:=by
   rw[<- HQ.out,fK.out,<- R.out]
  have lI:=kH jJ;have qo:Hid (rX r (aH G (aG r i (ak (ay s))) 3 X (ae.node 7 x a e C) s).1):=kH (by have:=dQ.og G r i (ak (ay s)) 3 (ae.node 7 x a e C) s;rw[R.out]at this;exact this);have fH:Hid ((aH G (aG r i (ak (ay s))) 3 X (ae.node 7 x a e C) s).1.next=r.next+1):=kH (by have:=pM G r i (ak (ay s)) 3 (ae.node 7 x a e C) s;rw[R.out]at this⊢;exact this);have L:=fun q=>(HV.out.drewN q).og (ae.node 7 x a e C) ⟨rfl,rfl,rfl,rfl,rfl⟩ fK.out HD.out qW.out 3 X HU.out l d m xC (by have:=(HV.out.drewN q).S;rw[O,xM]at this;exact this) (by rw[<- xM];exact K) (.inl (.inr (by rw[xM];rfl)))
  rw[<- O,<- xM]at L;have Ll:=kH L;clear L jJ O xM;go_wp2_with fail
  go_quiet (fail)
  go_wp2_with fail
  refine(Ll.out _).mono ?_;rintro e8 w8 ⟨rfl,-,V8,h8⟩;obtain⟨⟨q8,BB⟩,⟨-,-,-,-,n8,Jh⟩,-⟩:=h8.cells;have D:=h8.kids fE.out i 0 W W (by omega) fK.out (by show 0+W<=W;omega) Y.out (by rw[Di (zL G _ 3 X (ae.node 7 x a e C) s)];exact lS.out.2) (dS.out.kids (t:=(ae.node 7 x a e C)) qo.out (by have h1:=La G (aG r i (ak (ay s))) 3 X (ae.node 7 x a e C) s;rw[fH.out];omega) (sN.out _ fH.out)) K (fun g hg=>.inl hg);rw[lI.out]at D;have HC:=kH D;clear D h8;go_wp2_with fail
  refine HC.out.mono ?_;rintro e10 aV ⟨rfl,-,zC,Z⟩;have HE:Hid (∃V',aX E G Q.1 V' aV/\bL aV E.base p Q.2 ms/\KX E (fun g=>g=E.vi\/ms.head? =some g) w aV):=kH Z.end_;clear Z HC q8 n8;go_wp2_with fail
  go_end0
  exact⟨rfl,HE.out⟩
theorem NA(E:RC)(G:bC)(B:Nat)(hB:B<=E.base)(x:ByteArray)(a e:Int)(C:List ae)(y:∀k∈C,gF E G B k):gF E G B (.node 8 x a e C):=by
 intro i s p ms r V w A c h hs K hk P I j U;obtain⟨W,J⟩:∃q,C.length=q:=⟨_,rfl⟩
 have f:s.isEmpty=false/\mG s.isEmpty C=true:=by
  rw[qA,if_neg (by decide),if_neg (by decide),if_pos (by decide)]at j;simp only[aad,Bool.not_eq_true']at j;exact⟨j.1.1.1,j.2⟩
 have hq:aM G i (ae.node 8 x a e C) s r=ah G i C 0 C.length (aH G (aG r i (ak (ay s))) 3 r.next (ae.node 8 x a e C) s).2 (aH G (aG r i (ak (ay s))) 3 r.next (ae.node 8 x a e C) s).1:=by
  rw[dx,if_neg (by decide),if_neg (by decide),if_neg (by decide),if_pos (by decide)]
 rw[hq];obtain⟨Q,hQ⟩:∃Q,ah G i C 0 C.length (aH G (aG r i (ak (ay s))) 3 r.next (ae.node 8 x a e C) s).2 (aH G (aG r i (ak (ay s))) 3 r.next (ae.node 8 x a e C) s).1=Q:=⟨_,rfl⟩
 rw[hQ];have HQ:=kH hQ;clear hq hQ;rw[show aZ (ae.node 8 x a e C) A c= .agg #[.int .i64 8,.string x,.int .i64 a,.int .i64 e,.slice A W c] by rw[<- J];rfl];obtain⟨X,R,v,xL,rU,hrw,hwn,hfx⟩:=DR h U J;have H:=kH h;have HS:=kH hs;have HK:Hid (aJ w B A 0 C):=kH hk;have dS:=kH U;have fK:=kH J;have lS:=kH f;have fE:=kH y;have Y:Hid (W<=c):=kH (by rw[<- J];exact P);have dG:=kH I;clear h hs hk U J f y j P I;go_in
 go_upto_if 32 with fail
 generalize z:World.alloc (World.alloc (World.setCell w _ _) _) _=W3
 obtain⟨F,gT,iW,jA,iQ,c5,p0,qN,rM⟩:=DN H HS z;clear z rU hfx;go_cut [] (fun wx=> ∃Vx,Hid (aX E G (aG r i (ak (ay s))) Vx wx)/\Hid (KX E (fun g=>g=E.vi) W3 wx))
 case first=>
  cases i with
  | false=>
   go_wp2_with fail
   go_meet
   exact⟨V,by have:=F.out;rw[<- R.out]at this;exact kH this,kH (KX.refl _ _ _)⟩
  | true=>
   obtain⟨iT,eY,n⟩:=DL F iQ iW dS R v;go_wp2_with fail
   go_region_held3 (fun w'=>w'.cell? ⟨E.rp,5,none⟩=some (.map (some E.vi))/\w'.cell? ⟨w.heap.size,0,none⟩=some (.pointer (some ⟨E.rp,0,none⟩))) (exact eY.out _ (by assumption)) ((go_at_call 145;refine iT.out.mono ?_;rintro e5 w5 ⟨v5,rfl,jI,T⟩;obtain⟨hs5,w6,u,lW,hs7⟩:=DK F T n v5))
   have HX:=kH (DJ F gT dS R dG T jI lW);clear hs5 hs7 lW T jI n u;go_wp2_with fail
   go_meet
   exact HX.out
 case rest=>
  obtain⟨Vx,gY,ny⟩:=hcut;obtain⟨HV,HD,qW,HU,sN⟩:=DI hB K gY ny F gT iW jA iQ HK dS R dG v;obtain⟨gi,gb,vC,Ag,hlk⟩:=DF gY x;obtain⟨⟨q0,lp⟩,⟨n0,n1,n2,n3,n4,ln⟩,⟨c0,c1,c2,c8,lr⟩⟩:=HV.out.cells;clear c5 p0 qN rM c8
  obtain⟨l,d,O⟩:∃l d,s=l::d:=by
   have:=lS.out.1
   cases s with
   | nil=>cases this
   | cons l d=>exact⟨l,d,rfl⟩
  obtain⟨m,xC,xM⟩:∃m xC,ms=m::xC:=by
   have h1:=HV.out.S;rw[O]at h1;obtain⟨b,m,p',ms',h2,h3,-⟩:=h1;exact⟨m,ms',h3⟩
  have jJ:ah G i C 0 W (aH G (aG r i (ak (ay s))) 3 X (ae.node 8 x a e C) s).2 (aH G (aG r i (ak (ay s))) 3 X (ae.node 8 x a e C) s).1=Q:=by
   rw[<- HQ.out,fK.out,<- R.out]
  have lI:=kH jJ;have qo:Hid (rX r (aH G (aG r i (ak (ay s))) 3 X (ae.node 8 x a e C) s).1):=kH (by have:=dQ.og G r i (ak (ay s)) 3 (ae.node 8 x a e C) s;rw[R.out]at this;exact this);have fH:Hid ((aH G (aG r i (ak (ay s))) 3 X (ae.node 8 x a e C) s).1.next=r.next+1):=kH (by have:=pM G r i (ak (ay s)) 3 (ae.node 8 x a e C) s;rw[R.out]at this⊢;exact this);have L:=fun q=>(HV.out.drewN q).og (ae.node 8 x a e C) ⟨rfl,rfl,rfl,rfl,rfl⟩ fK.out HD.out qW.out 3 X HU.out l d m xC (by have:=(HV.out.drewN q).S;rw[O,xM]at this;exact this) (by rw[<- xM];exact K) (.inl (.inr (by rw[xM];rfl)))
  rw[<- O,<- xM]at L;have Ll:=kH L;clear L jJ O xM;go_wp2_with fail
  go_quiet (fail)
  go_wp2_with fail
  refine(Ll.out _).mono ?_;rintro e8 w8 ⟨rfl,-,V8,h8⟩;obtain⟨⟨q8,BB⟩,⟨-,-,-,-,n8,Jh⟩,-⟩:=h8.cells;have D:=h8.kids fE.out i 0 W W (by omega) fK.out (by show 0+W<=W;omega) Y.out (by rw[Di (zL G _ 3 X (ae.node 8 x a e C) s)];exact lS.out.2) (dS.out.kids (t:=(ae.node 8 x a e C)) qo.out (by have h1:=La G (aG r i (ak (ay s))) 3 X (ae.node 8 x a e C) s;rw[fH.out];omega) (sN.out _ fH.out)) K (fun g hg=>.inl hg);rw[lI.out]at D;have HC:=kH D;clear D h8;go_wp2_with fail
  refine HC.out.mono ?_;rintro e10 aV ⟨rfl,-,zC,Z⟩;have HE:Hid (∃V',aX E G Q.1 V' aV/\bL aV E.base p Q.2 ms/\KX E (fun g=>g=E.vi\/ms.head? =some g) w aV):=kH Z.end_;clear Z HC q8 n8;go_wp2_with fail
  go_end0
  exact⟨rfl,HE.out⟩
theorem Uk(E:RC)(G:bC)(B:Nat)(hB:B<=E.base)(x:ByteArray)(a e:Int)(C:List ae)(y:∀k∈C,gF E G B k):gF E G B (.node 11 x a e C):=by
 intro i s p ms r V w A c h hs O hk L I hv U;obtain⟨W,J⟩:∃q,C.length=q:=⟨_,rfl⟩
 have j:mG false C=true:=by
  rw[qA,if_neg (by decide),if_pos rfl]at hv;exact hv
 have hq:aM G i (ae.node 11 x a e C) s r=((ah G i C 0 C.length ([]::s) (aG r i (ak (ay s)))).1,(ah G i C 0 C.length ([]::s) (aG r i (ak (ay s)))).2.tail):=by
  rw[dx,if_neg (by decide),if_neg (by decide),if_neg (by decide),if_neg (by decide),if_pos rfl]
 rw[hq];obtain⟨Q,hQ⟩:∃Q,((ah G i C 0 C.length ([]::s) (aG r i (ak (ay s)))).1,(ah G i C 0 C.length ([]::s) (aG r i (ak (ay s)))).2.tail)=Q:=⟨_,rfl⟩
 rw[hQ];have HQ:=kH hQ;clear hq hQ;rw[show aZ (ae.node 11 x a e C) A c= .agg #[.int .i64 11,.string x,.int .i64 a,.int .i64 e,.slice A W c] by rw[<- J];rfl];obtain⟨nx,bG,u,xL,rU,hrw,hwn,hfx⟩:=DR h U J;have H:=kH h;have HS:=kH hs;have HK:Hid (aJ w B A 0 C):=kH hk;have dS:=kH U;have fK:=kH J;have lS:=kH j;have fE:=kH y;have X:Hid (W<=c):=kH (by rw[<- J];exact L);have dG:=kH I;clear h hs hk U J j y hv L I;go_in
 go_upto_if 32 with fail
 generalize Y:World.alloc (World.alloc (World.setCell w _ _) _) _=W3
 obtain⟨F,gT,iW,jA,iQ,c5,p0,qN,rM⟩:=DN H HS Y;clear Y rU hfx;go_cut [] (fun wx=> ∃Vx,Hid (aX E G (aG r i (ak (ay s))) Vx wx)/\Hid (KX E (fun g=>g=E.vi) W3 wx))
 case first=>
  cases i with
  | false=>
   go_wp2_with fail
   go_meet
   exact⟨V,by have:=F.out;rw[<- bG.out]at this;exact kH this,kH (KX.refl _ _ _)⟩
  | true=>
   obtain⟨iT,eY,l⟩:=DL F iQ iW dS bG u;go_wp2_with fail
   go_region_held3 (fun w'=>w'.cell? ⟨E.rp,5,none⟩=some (.map (some E.vi))/\w'.cell? ⟨w.heap.size,0,none⟩=some (.pointer (some ⟨E.rp,0,none⟩))) (exact eY.out _ (by assumption)) ((go_at_call 145;refine iT.out.mono ?_;rintro e5 w5 ⟨v5,rfl,jI,T⟩;obtain⟨hs5,w6,n,lW,hs7⟩:=DK F T l v5))
   have HX:=kH (DJ F gT dS bG dG T jI lW);clear hs5 hs7 lW T jI l n;go_wp2_with fail
   go_meet
   exact HX.out
 case rest=>
  obtain⟨Vx,gY,ny⟩:=hcut;obtain⟨d,HD,qW,HU,sN⟩:=DI hB O gY ny F gT iW jA iQ HK dS bG dG u;obtain⟨gi,gb,vC,Ag,hlk⟩:=DF gY x;obtain⟨⟨q0,lp⟩,⟨n0,n1,n2,n3,n4,ln⟩,⟨c0,c1,c2,c8,lr⟩⟩:=d.out.cells;clear c5 p0 qN rM c8;obtain⟨Q1,R⟩:∃Q1,ah G i C 0 W ([]::s) (aG r i (ak (ay s)))=Q1:=⟨_,rfl⟩
  have jJ:(Q1.1,Q1.2.tail)=Q:=by rw[<- HQ.out,<- R,fK.out]
  have iF:=kH R;have lI:=kH jJ;have v:=fun q=>(d.out.drewN q).GA (d.out.drewN q).S O
  have qD:=kH v;clear v R jJ;go_wp2_with fail
  go_quiet (fail)
  go_wp2_with fail
  refine(qD.out _).mono ?_;rintro e8 w8 ⟨b,m,rfl,hm,hb,iw,jH,xK,Z,h8⟩;have hm1:w.heap.size<=m:=aac d.out.K.size hm;have h9:=h8.other jH;obtain⟨⟨q8,BB⟩,⟨-,-,-,-,n8,Jh⟩,-⟩:=h9.cells
  have D:=h9.kids fE.out i 0 W W (by omega) fK.out (by show 0+W<=W;omega) X.out lS.out (dS.out.kids (t:=(ae.node 11 x a e C)) (dQ.none_ r i _) (by rw[qU];show 0+(ay s).length+r.next<=(ay s).length+(r.next+1);omega) (sN.out _ rfl)) xK (fun g z=>by
   rcases z with z|z
   ·exact .inl (.inl z)
   ·exact .inr (by simp at z;omega))
  rw[iF.out]at D;have HC:=kH D;have HB:=kH hb;have H9:=kH h9;clear D h8 h9 hb jH xK Z iw hm;go_wp2_with fail
  refine HC.out.mono ?_;rintro e10 aV ⟨rfl,f,zC,P⟩
  have HE:Hid (∃V',aX E G Q.1 V' aV/\bL aV E.base p Q.2 ms/\KX E (fun g=>g=E.vi\/ms.head? =some g) w aV):=kH (by
   rw[<- lI.out]
   exact(P.other (bL.tail P.S (H9.out.yE f HB.out))).end_)
  clear P HC q8 n8 f;go_wp2_with fail
  go_end0
  exact⟨rfl,HE.out⟩
section
variable {E:RC}{G:bC}{B:Nat}{N:NB}{w0 w w1 w':World}{M M2:Nat->Prop}{r r':RS}{V V':RV}{s:aS}{p:Option Addr}{ms:List Nat}
theorem VW.outer(h:VW E G B N w0 M r V s p ms w)(D:Eh E ms)(J:Below w.heap.size w w1)(L:KX E M2 w1 w')(O:aX E G r' V' w')(A:∀g,M2 g->g=E.vi\/w.heap.size<=g)(I:M E.vi):VW E G B N w0 M r' V' s p ms w':=by
 have F:KX E M2 w w':=(KX.of_below (M:=M2) J).trans L (fun g C=>.inl C);refine h.Qf F O (fun m H C=>?_) (fun g C=>?_)
 ·rcases A m C with e|e
  ·exact(D.apart m H).2.2.2 e
  ·have:=bL.lt h.S m H
   omega
 ·rcases A g C with rfl|e
  ·exact .inl I
  ·exact .inr (aac h.K.size e)
theorem VW.store{l O:lH}{m:Nat}(h:VW E G B N w0 M r V (l::s) p (m::ms) w)(A:Eh E (m::ms))(H:aF (fun g=>g=m) w w')(X:bA jo w' m (jS O))(W:M m\/w0.heap.size<=m):VW E G B N w0 M r V (O::s) p (m::ms) w':=by
 obtain⟨b,v,z,Z,rfl,I,Q,J,K,T,U⟩:=h.S;simp only[List.cons.injEq]at I;obtain⟨rfl,rfl⟩:=I;have C:=T.isMap;have P:=A.apart m (by simp);have F:=List.nodup_cons.1 A.nodup;have L:KX E (fun g=>g=m) w w':=KX.oP H rfl J C;refine h.step L (h.R.oP H P C) ⟨b,m,z,ms,rfl,rfl,Q,J,?_,X,?_⟩ (fun g D=>by rw[D];exact W)
 ·refine K.since H (fun e=>?_)
  obtain⟨x,y,Y⟩:=C;subst e;have:w.heap[b]? =some (Obj.cells _ _ (0,0)):=K;rw[Y]at this;cases this
 ·exact bL.kx L h.R.oO U (fun g D e=>F.1 (by rw[<- e];exact D))
theorem UO(G:bC)(r:RS)(c:Int)(n:Nat)(t:ae)(s:aS):∃l,(aH G r c n t ([]::s)).2=l::s/\l.length<=1:=by
 unfold aH;split
 ·exact⟨[],rfl,Nat.zero_le _⟩
 ·exact⟨[(t.text,(n:Int))],rfl,aab _⟩
end
theorem mY{a b:ByteArray}(h:a.data.toList=b.data.toList):a=b:=by
 obtain⟨a⟩:=a;obtain⟨b⟩:=b;have:a=b:=Array.toList_inj.1 h;rw[this]
theorem eH{P:Program}{A:Array Oper}{Q:Exit->Act->World->Prop}{S:World->Prop}{ex:List Nat}{k:Nat}{C:List Bool}{o:Oper}{rest:List Oper}{a:Act}{w:World}{f:FuncId}{args:Array Value}(I:Region.wanted o (yielded A a.tmps)=true)
 (J:(execOp a.eval o).run P w= .ok (.enter f args) w) (h:Calls P f args w fun e w'=> ∃v,e= .returned v/\(ex.contains k=false->S w')/\uj P A Q S ex (k+1) C rest (a.put o.dst v) w'):uj P A Q S ex k (false::C) (o::rest) a w:=
 ⟨I,by unfold Oper.wp;rw[J];exact h.mono (fun e w' ⟨v,H,D,F⟩=>by subst H;exact⟨D,F⟩)⟩
end Go.Proofs.YtoepemlnlpamlaaGreat
