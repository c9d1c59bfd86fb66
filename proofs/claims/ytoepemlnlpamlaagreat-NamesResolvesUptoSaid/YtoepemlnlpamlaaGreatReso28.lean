/- The law NamesResolves holds where what it reads is of bulk at most 1048576: it returns true, and its argument reads as before. Part 28: VisC0 VisC1 VisC2 VisD0. -/
import Derived.Test.YtoepemlnlpamlaaGreatReso26
import Derived.Test.YtoepemlnlpamlaaGreatReso27
set_option maxRecDepth 100000
set_option maxHeartbeats 4000000
namespace Go.Proofs.YtoepemlnlpamlaaGreat
open Go.RowKit
theorem UT(E:RC)(G:bf)(B:Nat)(hB:B<=E.base)(x:ByteArray)(a e:Int)(kids:List ae)(hih:∀k∈kids,gz E G B k):gz E G B (.node 5 x a e kids):=by
 intro i s p ms r V w A c h hs hsep hk hcap hbase hv hrb;obtain⟨nk,hnk⟩:∃q,kids.length=q:=⟨_,rfl⟩
 have hvk:kids.length=3/\lU false kids=true:=by
  rw[qb,if_pos rfl]at hv;simp only[abG,decide_eq_true_eq]at hv;exact hv
 have hq:aJ G i (ae.node 5 x a e kids) s r=((ah G true kids 2 1 ([]::(ah G false kids 0 2 [[]] { aU (aC r i (aj (ak s))) 2 r.next (ae.node 5 x a e kids) (decide ((aT G.globals x).getD 0≠(r.next:Int))) with owner:=(r.next:Int) }).2) (ah G false kids 0 2 [[]] { aU (aC r i (aj (ak s))) 2 r.next (ae.node 5 x a e kids) (decide ((aT G.globals x).getD 0≠(r.next:Int))) with owner:=(r.next:Int) }).1).1,s):=by
  rw[dh,if_neg (by decide),if_neg (by decide),if_pos rfl]
 rw[hq];obtain⟨Q,hQ⟩:∃Q,((ah G true kids 2 1 ([]::(ah G false kids 0 2 [[]] { aU (aC r i (aj (ak s))) 2 r.next (ae.node 5 x a e kids) (decide ((aT G.globals x).getD 0≠(r.next:Int))) with owner:=(r.next:Int) }).2) (ah G false kids 0 2 [[]] { aU (aC r i (aj (ak s))) 2 r.next (ae.node 5 x a e kids) (decide ((aT G.globals x).getD 0≠(r.next:Int))) with owner:=(r.next:Int) }).1).1,s)=Q:=⟨_,rfl⟩
 rw[hQ];have HQ:=kH hQ;clear hq hQ;rw[show bD (ae.node 5 x a e kids) A c= .agg #[.int .i64 5,.string x,.int .i64 a,.int .i64 e,.slice A nk c] by rw[<- hnk];rfl];obtain⟨nx,bF,hnb,xW,ry,hrw,hwn,hfx⟩:=CS h hrb hnk;have H:=kH h;have HS:=kH hs;have HK:Hid (aK w B A 0 kids):=kH hk;have dH:=kH hrb;have fQ:=kH hnk;have kZ:=kH hvk;have fD:=kH hih;have HCAP:Hid (nk<=c):=kH (by rw[<- hnk];exact hcap);have dC:=kH hbase;clear h hs hk hrb hnk hvk hih hv hcap hbase;go_enter Tryz.func79,Tryz.ntmps79
 go_upto_if 32 with fail
 generalize hW3:World.alloc (World.alloc (World.setCell w _ _) _) _=W3
 obtain⟨HR3,gM,iQ,jH,iM,c5,p0,qy,rf⟩:=CR H HS hW3;clear hW3 ry hfx;go_cut [] (fun wx=> ∃Vx,Hid (aV E G (aC r i (aj (ak s))) Vx wx)/\Hid (KX E (fun g=>g=E.vi) W3 wx))
 case first=>
  cases i with
  | false=>
   go_wp2_with fail
   go_meet
   exact⟨V,by have:=HR3.out;rw[<- bF.out]at this;exact kH this,kH (KX.refl _ _ _)⟩
  | true=>
   obtain⟨iO,dU,hs0⟩:=CQ HR3 iM iQ dH bF hnb;go_wp2_with fail
   go_region_held3 (fun w'=>w'.cell? ⟨E.rp,5,none⟩=some (.map (some E.vi))/\w'.cell? ⟨w.heap.size,0,none⟩=some (.pointer (some ⟨E.rp,0,none⟩))) (exact dU.out _ (by assumption)) ((go_at_call 145;refine iO.out.mono ?_;rintro e5 w5 ⟨v5,rfl,jR,hb5⟩;obtain⟨hs5,w6,hrun,lF,hs7⟩:=CP HR3 hb5 hs0 v5))
   have HX:=kH (CO HR3 gM dH bF dC hb5 jR lF);clear hs5 hs7 lF hb5 jR hs0 hrun;go_wp2_with fail
   go_meet
   exact HX.out
 case rest=>
  obtain⟨Vx,gW,mH⟩:=hcut;obtain⟨HV,HD,qF,HU,rY⟩:=CL hB hsep gW mH HR3 gM iQ jH iM HK dH bF dC hnb;obtain⟨gi,gb,uO,zx,hlk⟩:=CK gW x;obtain⟨⟨q0,lp⟩,⟨n0,n1,n2,n3,n4,ln⟩,⟨c0,c1,c2,c8,lr⟩⟩:=HV.out.cells;clear c5 p0 qy rf c8;obtain⟨D,YO⟩:∃D:RS,({ aU (aC r i (aj (ak s))) 2 nx (ae.node 5 x a e kids) (gi !=(nx:Int)) with owner:=(nx:Int) }:RS)=D:=⟨_,rfl⟩
  obtain⟨X,hX⟩:∃X,ah G false kids 0 2 [[]] D=X:=⟨_,rfl⟩
  have jr:((ah G true kids 2 1 ([]::X.2) X.1).1,s)=Q:=by
   rw[<- HQ.out,<- hX,<- YO,RJ,<- uO.out,bF.out]
  have hsl:rC r D:=by
   have:=dM.trans (dM.declare r i (aj (ak s)) 2 (ae.node 5 x a e kids) (gi !=(nx:Int))) (dM.owner _ (nx:Int));rw[bF.out]at this;rw[<- YO];exact this
  have hne:D.next=r.next+1:=by
   rw[<- YO];have:=rV r i (aj (ak s)) 2 (ae.node 5 x a e kids) (gi !=(nx:Int));rw[bF.out]at this⊢;exact this
  have hal:(ak ([[]]:aQ)).length=0:=rfl;have hsx:rC r X.1:=dM.trans hsl (by rw[<- hX];exact ym G kids false 0 2 _ D)
  have hax:(ak ([]::X.2)).length+r.next<=(ak s).length+X.1.next:=by
   have h1:=iZ G kids false 0 2 [[]] D;rw[hX,hal,hne]at h1;rw[qD];show 0+_+_<=_;omega
  have hnx2:X.1.next<=r.next+1+aG ((ae.node 5 x a e kids).kids.take 2):=by
   have h1:=qK G kids false 0 2 [[]] D;rw[hX,hne]at h1;exact h1
  have pW:=kH hsl;have fC:=kH hne;have HDD:=kH YO;have HX:=kH hX;have kR:=kH jr;have Bf:=kH hsx;have MI:=kH hax;have Xk:=kH hnx2;have hdec:=fun q=>(HV.out.drewN q).RG (ae.node 5 x a e kids) ⟨rfl,rfl,rfl,rfl,rfl⟩ fQ.out HD.out qF.out 2 nx HU.out (gi !=(nx:Int))
  have GD:=kH hdec;clear hdec jr hsl hne hX YO hsx hax hnx2 hal;go_wp2_with fail
  go_quiet (fail)
  go_wp2_with fail
  refine(GD.out _).mono ?_;rintro e8 w8 ⟨rfl,V8,h8⟩;obtain⟨⟨y8,ly8⟩,⟨-,-,-,-,z8,lz8⟩,⟨-,-,-,d8,ld8⟩⟩:=h8.cells;have fo8:=h8.R.blk.frozen 8;obtain⟨IA,vU⟩:=h8.R.PL (nx:Int) (fun _=>False);obtain⟨W9,qA⟩:∃W9,w8.setCell ⟨E.rp,8,none⟩ (.int .i64 (nx:Int))=W9:=⟨_,rfl⟩
  rw[qA]at IA vU;have hr9':aV E G D V8 W9:=by rw[<- HDD.out];exact IA
  have h9:=h8.OZ vU hr9' (fun _ _ hf=>hf) (fun _ hf=>hf.elim);obtain⟨ow,how⟩:∃q,(aU (aC r i (aj (ak s))) 2 nx (ae.node 5 x a e kids) (gi !=(nx:Int))).owner=q:=⟨_,rfl⟩
  rw[how]at d8;have hin9:=h9.FK (p1:=none) (s1:=[]) (ms1:=[]) ⟨rfl,rfl⟩ ⟨List.nodup_nil,fun m hm=>by cases hm⟩;have HIN9:=kH hin9;have H9:=kH h9;clear how h8 IA hr9' vU h9 hin9;go_wp2_with (rw[qA])
  refine HIN9.out.mono ?_;rintro e10 bA ⟨b,m,rfl,hm,hb,ik,FP,Yx,hbel,h10⟩;have hm1:w.heap.size<=m:=abF H9.out.K.size hm;have h11:=h10.other FP;obtain⟨⟨Ib,lq11⟩,⟨-,-,-,-,n11,ln11⟩,-⟩:=h11.cells
  have hcall:=h11.kids fD.out false 0 2 2 rfl fQ.out (by show 0+2<=nk;have:=kZ.out.1;have:=fQ.out;omega) HCAP.out kZ.out.2 (dH.out.kids (t:=(ae.node 5 x a e kids)) pW.out (by have:=fC.out;show 0+r.next<=_;omega) (by rw[fC.out];exact Nat.le_add_right _ _)) Yx (fun g hg=>by
   rcases hg with hg|hg
   ·exact .inl (.inl hg)
   ·exact .inr (by simp at hg;omega))
  rw[HX.out]at hcall;have HC:=kH hcall;have HBEL:=kH hbel;have HM:Hid (W9.heap.size<=m/\w.heap.size<=m):=kH ⟨hm,hm1⟩;clear hcall h10 h11 hb FP hbel ik hm hm1 qA fo8 d8 y8 z8 ly8 lz8 ld8;go_wp2_with fail
  refine HC.out.mono ?_;rintro e12 mJ ⟨rfl,k12,V12,h12⟩
  have Kl:=kH (H9.out.outer hsep HBEL.out k12 h12.R (fun g hg=>by
   rcases hg with hg|hg
   ·exact .inl hg
   ·exact .inr (by have:=HM.out.1;simp at hg;omega)) (.inl rfl))
  have hin12:=h12.FK h12.S Yx;have HIN12:=kH hin12;have HM12:Hid (w.heap.size<=mJ.heap.size):=kH h12.K.size;clear k12 h12 hin12 Ib lq11 n11 ln11 HC;go_wp2_with fail
  refine HIN12.out.mono ?_;rintro e13 uL ⟨b2,m2,rfl,hm2,hb2,Rh,hs13,hsep13,YG,pR⟩;have eu:w.heap.size<=m2:=abF HM12.out hm2;have yR:=pR.other hs13;obtain⟨⟨q14,lq14⟩,⟨-,-,-,-,n14,ln14⟩,-⟩:=yR.cells
  have hcall:=yR.kids fD.out true 2 1 3 rfl fQ.out (by show 2+1<=nk;have:=kZ.out.1;have:=fQ.out;omega) HCAP.out kZ.out.2 (dH.out.kids (t:=(ae.node 5 x a e kids)) Bf.out MI.out Xk.out) hsep13 (fun g hg=>by
   rcases hg with hg|hg
   ·exact .inl (.inl hg)
   ·exact .inr (by simp at hg;omega))
  have HC:=kH hcall;have HBEL13:=kH YG;have HM13:Hid (mJ.heap.size<=m2):=kH hm2;clear hcall pR yR hb2 hs13 YG Rh hm2 eu;go_wp2_with fail
  refine HC.out.mono ?_;rintro e15 Hl ⟨rfl,k15,V15,EM⟩
  have HE:Hid (∃V',aV E G Q.1 V' Hl/\bL Hl E.base p Q.2 ms/\KX E (fun g=>g=E.vi\/ms.head? =some g) w Hl):=kH (by
   rw[<- kR.out]
   exact(Kl.out.outer hsep HBEL13.out k15 EM.R (fun g hg=>by
    rcases hg with hg|hg
    ·exact .inl hg
    ·exact .inr (by have:=HM13.out;simp at hg;omega)) (.inl rfl)).end_)
  clear k15 EM HC q14 n14;go_wp2_with fail
  try simp only[Exit.inBlock,Exit.then]
  refine bodyPost_ret (results_none rfl _ _ _) rfl ?_;exact⟨rfl,HE.out⟩
theorem XE(E:RC)(G:bf)(B:Nat)(hB:B<=E.base)(x:ByteArray)(a e:Int)(kids:List ae)(hih:∀k∈kids,gz E G B k):gz E G B (.node 16 x a e kids):=by
 intro i s p ms r V w A c h hs hsep hk hcap hbase hv hrb;obtain⟨nk,hnk⟩:∃q,kids.length=q:=⟨_,rfl⟩
 have hvk:s.isEmpty=false/\kids.length=3/\lU s.isEmpty kids=true:=by
  rw[qb,if_neg (by decide),if_neg (by decide),if_pos (by decide)]at hv;simp only[abG,Bool.not_eq_true',Bool.or_eq_true,decide_eq_true_eq]at hv;exact⟨hv.1.1.1,hv.1.2.resolve_left (by decide),hv.2⟩
 have hq:aJ G i (ae.node 16 x a e kids) s r=((ah G i kids 2 1 ((aD G (aC r i (aj (ak s))) 5 r.next (ae.node 16 x a e kids) ([]::s)).2.headD []::(ah G i kids 0 2 s (aD G (aC r i (aj (ak s))) 5 r.next (ae.node 16 x a e kids) ([]::s)).1).2) (ah G i kids 0 2 s (aD G (aC r i (aj (ak s))) 5 r.next (ae.node 16 x a e kids) ([]::s)).1).1).1,(ah G i kids 2 1 ((aD G (aC r i (aj (ak s))) 5 r.next (ae.node 16 x a e kids) ([]::s)).2.headD []::(ah G i kids 0 2 s (aD G (aC r i (aj (ak s))) 5 r.next (ae.node 16 x a e kids) ([]::s)).1).2) (ah G i kids 0 2 s (aD G (aC r i (aj (ak s))) 5 r.next (ae.node 16 x a e kids) ([]::s)).1).1).2.tail):=by
  rw[dh,if_neg (by decide),if_neg (by decide),if_neg (by decide),if_neg (by decide),if_neg (by decide),if_neg (by decide),if_pos rfl]
 rw[hq];obtain⟨Q,hQ⟩:∃Q,((ah G i kids 2 1 ((aD G (aC r i (aj (ak s))) 5 r.next (ae.node 16 x a e kids) ([]::s)).2.headD []::(ah G i kids 0 2 s (aD G (aC r i (aj (ak s))) 5 r.next (ae.node 16 x a e kids) ([]::s)).1).2) (ah G i kids 0 2 s (aD G (aC r i (aj (ak s))) 5 r.next (ae.node 16 x a e kids) ([]::s)).1).1).1,(ah G i kids 2 1 ((aD G (aC r i (aj (ak s))) 5 r.next (ae.node 16 x a e kids) ([]::s)).2.headD []::(ah G i kids 0 2 s (aD G (aC r i (aj (ak s))) 5 r.next (ae.node 16 x a e kids) ([]::s)).1).2) (ah G i kids 0 2 s (aD G (aC r i (aj (ak s))) 5 r.next (ae.node 16 x a e kids) ([]::s)).1).1).2.tail)=Q:=⟨_,rfl⟩
 rw[hQ];have HQ:=kH hQ;clear hq hQ;rw[show bD (ae.node 16 x a e kids) A c= .agg #[.int .i64 16,.string x,.int .i64 a,.int .i64 e,.slice A nk c] by rw[<- hnk];rfl];obtain⟨nx,bF,hnb,xW,ry,hrw,hwn,hfx⟩:=CS h hrb hnk;have H:=kH h;have HS:=kH hs;have HK:Hid (aK w B A 0 kids):=kH hk;have dH:=kH hrb;have fQ:=kH hnk;have kZ:=kH hvk;have fD:=kH hih;have HCAP:Hid (nk<=c):=kH (by rw[<- hnk];exact hcap);have dC:=kH hbase;clear h hs hk hrb hnk hvk hih hv hcap hbase;go_enter Tryz.func79,Tryz.ntmps79
 go_upto_if 32 with fail
 generalize hW3:World.alloc (World.alloc (World.setCell w _ _) _) _=W3
 obtain⟨HR3,gM,iQ,jH,iM,c5,p0,qy,rf⟩:=CR H HS hW3;clear hW3 ry hfx;go_cut [] (fun wx=> ∃Vx,Hid (aV E G (aC r i (aj (ak s))) Vx wx)/\Hid (KX E (fun g=>g=E.vi) W3 wx))
 case first=>
  cases i with
  | false=>
   go_wp2_with fail
   go_meet
   exact⟨V,by have:=HR3.out;rw[<- bF.out]at this;exact kH this,kH (KX.refl _ _ _)⟩
  | true=>
   obtain⟨iO,dU,hs0⟩:=CQ HR3 iM iQ dH bF hnb;go_wp2_with fail
   go_region_held3 (fun w'=>w'.cell? ⟨E.rp,5,none⟩=some (.map (some E.vi))/\w'.cell? ⟨w.heap.size,0,none⟩=some (.pointer (some ⟨E.rp,0,none⟩))) (exact dU.out _ (by assumption)) ((go_at_call 145;refine iO.out.mono ?_;rintro e5 w5 ⟨v5,rfl,jR,hb5⟩;obtain⟨hs5,w6,hrun,lF,hs7⟩:=CP HR3 hb5 hs0 v5))
   have HX:=kH (CO HR3 gM dH bF dC hb5 jR lF);clear hs5 hs7 lF hb5 jR hs0 hrun;go_wp2_with fail
   go_meet
   exact HX.out
 case rest=>
  obtain⟨Vx,gW,mH⟩:=hcut;obtain⟨HV,HD,qF,HU,rY⟩:=CL hB hsep gW mH HR3 gM iQ jH iM HK dH bF dC hnb;obtain⟨gi,gb,uO,zx,hlk⟩:=CK gW x;obtain⟨⟨q0,lp⟩,⟨n0,n1,n2,n3,n4,ln⟩,⟨c0,c1,c2,c8,lr⟩⟩:=HV.out.cells;clear c5 p0 qy rf c8;obtain⟨L,hL⟩:∃L,aD G (aC r i (aj (ak s))) 5 nx (ae.node 16 x a e kids) ([]::s)=L:=⟨_,rfl⟩
  obtain⟨l,hl,hl1⟩:=Ty G (aC r i (aj (ak s))) 5 nx (ae.node 16 x a e kids) s;rw[hL]at hl;obtain⟨X,hX⟩:∃X,ah G i kids 0 2 s L.1=X:=⟨_,rfl⟩
  have hsl:rC r L.1:=by
   have:=dM.nL G r i (aj (ak s)) 5 (ae.node 16 x a e kids) ([]::s);rw[bF.out,hL]at this;exact this
  have hne:L.1.next=r.next+1:=by
   have:=oW G r i (aj (ak s)) 5 (ae.node 16 x a e kids) ([]::s);rw[bF.out,hL]at this;rw[this,bF.out]
  have hsx:rC r X.1:=dM.trans hsl (by rw[<- hX];exact ym G kids i 0 2 _ L.1)
  have hax:(ak (l::X.2)).length+r.next<=(ak s).length+X.1.next:=by
   have h1:=iZ G kids i 0 2 s L.1;rw[hX,hne]at h1;rw[qD];omega
  have hnx2:X.1.next<=r.next+1+aG ((ae.node 16 x a e kids).kids.take 2):=by
   have h1:=qK G kids i 0 2 s L.1;rw[hX,hne]at h1;exact h1
  have hxl:X.2.length=s.length:=by rw[<- hX];exact j3 G kids i 0 2 s L.1
  have pW:=kH hsl;have fC:=kH hne;have HL:=kH hL;have Mw:=kH hl;have tN:=kH hl1;have HX:=kH hX;have Bf:=kH hsx;have MI:=kH hax;have Xk:=kH hnx2;have Us:=kH hxl;have hin:=fun q=>(HV.out.drewN q).FK (HV.out.drewN q).S hsep
  have rH:=kH hin;clear hin hsl hne hX hsx hax hnx2 hl hl1 hL hxl;go_wp2_with fail
  go_quiet (fail)
  go_wp2_with fail
  refine(rH.out _).mono ?_;rintro e8 w8 ⟨b,m,rfl,hm,hb,ik,jQ,wQ,hbel,h8⟩;have hm1:w.heap.size<=m:=abF HV.out.K.size hm;have hvar:=h8.nL (ae.node 16 x a e kids) ⟨rfl,rfl,rfl,rfl,rfl⟩ fQ.out HD.out qF.out 5 nx HU.out [] s m ms jQ wQ (.inr hm1);rw[HL.out]at hvar;have Ki:=kH hvar;have HOU:Hid (∀{M2:Nat->Prop}{w':World}{r':RS}{V':RV},KX E M2 w8 w'->aV E G r' V' w'->(∀g,M2 g->g=E.vi\/g=m)->VW E G B ⟨kids,16,x,a,e,A,nk,c,w.heap.size+1,w.heap.size⟩ w (fun g=>g=E.vi\/ms.head? =some g) r' V' s p ms w'):=kH (fun hk hr hM2=>(HV.out.drewN _).outer hsep hbel hk hr (fun g hg=>by rcases hM2 g hg with e|e;exact .inl e;exact .inr (by rw[e];exact hm)) (.inl rfl));have uP:=kH hb;have H8:=kH h8;have HM:Hid (w.heap.size<=m):=kH hm1;obtain⟨⟨q8,Ap⟩,⟨u0,u1,u2,u3,u4,lu⟩,⟨-,-,-,-,lr8⟩⟩:=h8.cells;have b0:=hb.cell 0;have b1:=hb.cell 1;have lb8:=hb.lt;clear hvar hm hb ik jQ hbel h8 hm1;go_wp2_with fail
  refine Ki.out.mono ?_;rintro e9 w9 ⟨rfl,k9,V9,h9⟩;rw[Mw.out]at h9;have fA:=H8.out.xP k9 uP.out;have hhd:=h9.S.head;obtain⟨Rf,hbb,tZ,-⟩:=hhd;have Ls:=HOU.out k9 h9.R (fun g hg=>.inr hg);obtain⟨⟨q9,lq9⟩,⟨-,-,-,-,n9,ln9⟩,-⟩:=Ls.cells;have hcall:=Ls.kids fD.out i 0 2 2 rfl fQ.out (by show 0+2<=nk;have:=kZ.out.2.1;have:=fQ.out;omega) HCAP.out kZ.out.2.2 (dH.out.kids (t:=(ae.node 16 x a e kids)) pW.out (by have:=fC.out;omega) (by rw[fC.out];exact Nat.le_add_right _ _)) hsep (fun g hg=>.inl hg);rw[HX.out]at hcall;have HC:=kH hcall;have HO9:=kH Ls;have zz:=kH fA;have abB:=kH Rf;have oK:Hid (E.base<=b/\E.base<=m):=kH ⟨hbb,tZ⟩;clear hcall h9 fA Rf hbb tZ Ls k9 q8 Ap u0 u1 u2 u3 u4 lu lr8 b0 b1 lb8;go_wp2_with fail
  refine HC.out.mono ?_;rintro e10 bA ⟨rfl,k10,yT,h10⟩;have jD:=HO9.out.xP k10 zz.out
  have NS:¬(m=E.vi\/ms.head? =some m):=fun h=>by
   rcases h with h|h
   ·exact(wQ.apart m (by simp)).2.2.2 h
   ·refine(List.nodup_cons.1 wQ.nodup).1 ?_
    cases ms with
    | nil=>cases h
    | cons a t=>simp at h;rw[h];simp
  have G8:=k10.RO abB.out NS;obtain⟨Y,hY⟩:∃Y,ah G i kids 2 1 (l::X.2) X.1=Y:=⟨_,rfl⟩
  have jr:(Y.1,Y.2.tail)=Q:=by
   rw[<- HQ.out,bF.out,HL.out,HX.out,Mw.out,<- hY];rfl
  have FP:bL bA E.base (some ⟨b,0,none⟩) (l::X.2) (m::ms):=⟨b,m,p,ms,rfl,rfl,oK.out.1,oK.out.2,jD,G8,h10.S⟩
  have h11:=h10.other FP;obtain⟨⟨Ib,lq11⟩,⟨-,-,-,-,n11,ln11⟩,-⟩:=h11.cells
  have hcall:=h11.kids fD.out i 2 1 3 rfl fQ.out (by show 2+1<=nk;have:=kZ.out.2.1;have:=fQ.out;omega) HCAP.out (by have:=kZ.out.2.2;rw[kZ.out.1]at this;exact this) (dH.out.kids (t:=(ae.node 16 x a e kids)) Bf.out MI.out Xk.out) wQ (fun g hg=>by
   rcases hg with hg|hg
   ·exact .inl (.inl hg)
   ·exact .inr (by have:=HM.out;simp at hg;omega))
  rw[hY]at hcall;have uY:=kH hcall;have HB10:=kH jD;have H11:=kH h11;have kR:=kH jr;clear hcall h10 h11 jD G8 FP k10 NS hY jr q9 lq9 n9 ln9 HC;go_wp2_with fail
  refine uY.out.mono ?_;rintro e12 mJ ⟨rfl,k12,V12,h12⟩
  have HE:Hid (∃V',aV E G Q.1 V' mJ/\bL mJ E.base p Q.2 ms/\KX E (fun g=>g=E.vi\/ms.head? =some g) w mJ):=kH (by
   rw[<- kR.out]
   exact(h12.other (bL.tail h12.S (H11.out.xP k12 HB10.out))).end_)
  clear k12 h12 uY Ib n11;go_wp2_with fail
  try simp only[Exit.inBlock,Exit.then]
  refine bodyPost_ret (results_none rfl _ _ _) rfl ?_;exact⟨rfl,HE.out⟩
theorem XD(E:RC)(G:bf)(B:Nat)(hB:B<=E.base)(x:ByteArray)(a e:Int)(kids:List ae)(hih:∀k∈kids,gz E G B k):gz E G B (.node 12 x a e kids):=by
 intro i s p ms r V w A c h hs hsep hk hcap hbase hv hrb;obtain⟨nk,hnk⟩:∃q,kids.length=q:=⟨_,rfl⟩
 have hvk:s.isEmpty=false/\kids.length=2/\lU s.isEmpty kids=true:=by
  rw[qb,if_neg (by decide),if_neg (by decide),if_pos (by decide)]at hv;simp only[abG,Bool.not_eq_true',Bool.or_eq_true,decide_eq_true_eq]at hv;exact⟨hv.1.1.1,hv.1.1.2.resolve_left (by decide),hv.2⟩
 have hq:aJ G i (ae.node 12 x a e kids) s r=((ah G i kids 0 2 s (aD G (aC r i (aj (ak s))) 4 r.next (ae.node 12 x a e kids) ([]::s)).1).1,kr (ah G i kids 0 2 s (aD G (aC r i (aj (ak s))) 4 r.next (ae.node 12 x a e kids) ([]::s)).1).2 ((aD G (aC r i (aj (ak s))) 4 r.next (ae.node 12 x a e kids) ([]::s)).2.headD [])):=by
  rw[dh,if_neg (by decide),if_neg (by decide),if_neg (by decide),if_neg (by decide),if_neg (by decide),if_pos rfl]
 rw[hq];obtain⟨Q,hQ⟩:∃Q,((ah G i kids 0 2 s (aD G (aC r i (aj (ak s))) 4 r.next (ae.node 12 x a e kids) ([]::s)).1).1,kr (ah G i kids 0 2 s (aD G (aC r i (aj (ak s))) 4 r.next (ae.node 12 x a e kids) ([]::s)).1).2 ((aD G (aC r i (aj (ak s))) 4 r.next (ae.node 12 x a e kids) ([]::s)).2.headD []))=Q:=⟨_,rfl⟩
 rw[hQ];have HQ:=kH hQ;clear hq hQ;rw[show bD (ae.node 12 x a e kids) A c= .agg #[.int .i64 12,.string x,.int .i64 a,.int .i64 e,.slice A nk c] by rw[<- hnk];rfl];obtain⟨nx,bF,hnb,xW,ry,hrw,hwn,hfx⟩:=CS h hrb hnk;have H:=kH h;have HS:=kH hs;have HK:Hid (aK w B A 0 kids):=kH hk;have dH:=kH hrb;have fQ:=kH hnk;have kZ:=kH hvk;have fD:=kH hih;have HCAP:Hid (nk<=c):=kH (by rw[<- hnk];exact hcap);have dC:=kH hbase;clear h hs hk hrb hnk hvk hih hv hcap hbase;go_enter Tryz.func79,Tryz.ntmps79
 go_upto_if 32 with fail
 generalize hW3:World.alloc (World.alloc (World.setCell w _ _) _) _=W3
 obtain⟨HR3,gM,iQ,jH,iM,c5,p0,qy,rf⟩:=CR H HS hW3;clear hW3 ry hfx;go_cut [] (fun wx=> ∃Vx,Hid (aV E G (aC r i (aj (ak s))) Vx wx)/\Hid (KX E (fun g=>g=E.vi) W3 wx))
 case first=>
  cases i with
  | false=>
   go_wp2_with fail
   go_meet
   exact⟨V,by have:=HR3.out;rw[<- bF.out]at this;exact kH this,kH (KX.refl _ _ _)⟩
  | true=>
   obtain⟨iO,dU,hs0⟩:=CQ HR3 iM iQ dH bF hnb;go_wp2_with fail
   go_region_held3 (fun w'=>w'.cell? ⟨E.rp,5,none⟩=some (.map (some E.vi))/\w'.cell? ⟨w.heap.size,0,none⟩=some (.pointer (some ⟨E.rp,0,none⟩))) (exact dU.out _ (by assumption)) ((go_at_call 145;refine iO.out.mono ?_;rintro e5 w5 ⟨v5,rfl,jR,hb5⟩;obtain⟨hs5,w6,hrun,lF,hs7⟩:=CP HR3 hb5 hs0 v5))
   have HX:=kH (CO HR3 gM dH bF dC hb5 jR lF);clear hs5 hs7 lF hb5 jR hs0 hrun;go_wp2_with fail
   go_meet
   exact HX.out
 case rest=>
  obtain⟨Vx,gW,mH⟩:=hcut;obtain⟨HV,HD,qF,HU,rY⟩:=CL hB hsep gW mH HR3 gM iQ jH iM HK dH bF dC hnb;obtain⟨gi,gb,uO,zx,hlk⟩:=CK gW x;obtain⟨⟨q0,lp⟩,⟨n0,n1,n2,n3,n4,ln⟩,⟨c0,c1,c2,c8,lr⟩⟩:=HV.out.cells;clear c5 p0 qy rf c8;obtain⟨L,hL⟩:∃L,aD G (aC r i (aj (ak s))) 4 nx (ae.node 12 x a e kids) ([]::s)=L:=⟨_,rfl⟩
  obtain⟨l,hl,hl1⟩:=Ty G (aC r i (aj (ak s))) 4 nx (ae.node 12 x a e kids) s;rw[hL]at hl;obtain⟨X,hX⟩:∃X,ah G i kids 0 2 s L.1=X:=⟨_,rfl⟩
  have hsl:rC r L.1:=by
   have:=dM.nL G r i (aj (ak s)) 4 (ae.node 12 x a e kids) ([]::s);rw[bF.out,hL]at this;exact this
  have hne:L.1.next=r.next+1:=by
   have:=oW G r i (aj (ak s)) 4 (ae.node 12 x a e kids) ([]::s);rw[bF.out,hL]at this;rw[this,bF.out]
  have hsx:rC r X.1:=dM.trans hsl (by rw[<- hX];exact ym G kids i 0 2 _ L.1)
  have hax:(ak (l::X.2)).length+r.next<=(ak s).length+X.1.next:=by
   have h1:=iZ G kids i 0 2 s L.1;rw[hX,hne]at h1;rw[qD];omega
  have hnx2:X.1.next<=r.next+1+aG ((ae.node 12 x a e kids).kids.take 2):=by
   have h1:=qK G kids i 0 2 s L.1;rw[hX,hne]at h1;exact h1
  have hxl:X.2.length=s.length:=by rw[<- hX];exact j3 G kids i 0 2 s L.1
  have pW:=kH hsl;have fC:=kH hne;have HL:=kH hL;have Mw:=kH hl;have tN:=kH hl1;have HX:=kH hX;have Bf:=kH hsx;have MI:=kH hax;have Xk:=kH hnx2;have Us:=kH hxl;have hin:=fun q=>(HV.out.drewN q).FK (HV.out.drewN q).S hsep
  have rH:=kH hin;clear hin hsl hne hX hsx hax hnx2 hl hl1 hL hxl;go_wp2_with fail
  go_quiet (fail)
  go_wp2_with fail
  refine(rH.out _).mono ?_;rintro e8 w8 ⟨b,m,rfl,hm,hb,ik,jQ,wQ,hbel,h8⟩;have hm1:w.heap.size<=m:=abF HV.out.K.size hm;have hvar:=h8.nL (ae.node 12 x a e kids) ⟨rfl,rfl,rfl,rfl,rfl⟩ fQ.out HD.out qF.out 4 nx HU.out [] s m ms jQ wQ (.inr hm1);rw[HL.out]at hvar;have Ki:=kH hvar;have HOU:Hid (∀{M2:Nat->Prop}{w':World}{r':RS}{V':RV},KX E M2 w8 w'->aV E G r' V' w'->(∀g,M2 g->g=E.vi\/g=m)->VW E G B ⟨kids,12,x,a,e,A,nk,c,w.heap.size+1,w.heap.size⟩ w (fun g=>g=E.vi\/ms.head? =some g) r' V' s p ms w'):=kH (fun hk hr hM2=>(HV.out.drewN _).outer hsep hbel hk hr (fun g hg=>by rcases hM2 g hg with e|e;exact .inl e;exact .inr (by rw[e];exact hm)) (.inl rfl));have uP:=kH hb;have H8:=kH h8;have HM:Hid (w.heap.size<=m):=kH hm1;obtain⟨⟨q8,Ap⟩,⟨u0,u1,u2,u3,u4,lu⟩,⟨-,-,-,-,lr8⟩⟩:=h8.cells;have b0:=hb.cell 0;have b1:=hb.cell 1;have lb8:=hb.lt;clear hvar hm hb ik jQ hbel h8 hm1;go_wp2_with fail
  refine Ki.out.mono ?_;rintro e9 w9 ⟨rfl,k9,V9,h9⟩;rw[Mw.out]at h9;have fA:=H8.out.xP k9 uP.out;have hhd:=h9.S.head;obtain⟨Rf,hbb,tZ,-⟩:=hhd;have Ls:=HOU.out k9 h9.R (fun g hg=>.inr hg);obtain⟨⟨q9,lq9⟩,⟨-,-,-,-,n9,ln9⟩,-⟩:=Ls.cells;have hcall:=Ls.kids fD.out i 0 2 2 rfl fQ.out (by show 0+2<=nk;have:=kZ.out.2.1;have:=fQ.out;omega) HCAP.out kZ.out.2.2 (dH.out.kids (t:=(ae.node 12 x a e kids)) pW.out (by have:=fC.out;omega) (by rw[fC.out];exact Nat.le_add_right _ _)) hsep (fun g hg=>.inl hg);rw[HX.out]at hcall;have HC:=kH hcall;have HO9:=kH Ls;have zz:=kH fA;have abB:=kH Rf;have oK:Hid (E.base<=b/\E.base<=m):=kH ⟨hbb,tZ⟩;clear hcall h9 fA Rf hbb tZ Ls k9 q8 Ap u0 u1 u2 u3 u4 lu lr8 b0 b1 lb8;go_wp2_with fail
  refine HC.out.mono ?_;rintro e10 bA ⟨rfl,k10,yT,h10⟩;have jD:=HO9.out.xP k10 zz.out
  have NS:¬(m=E.vi\/ms.head? =some m):=fun h=>by
   rcases h with h|h
   ·exact(wQ.apart m (by simp)).2.2.2 h
   ·refine(List.nodup_cons.1 wQ.nodup).1 ?_
    cases ms with
    | nil=>cases h
    | cons a t=>simp at h;rw[h];simp
  have G8:=k10.RO abB.out NS
  obtain⟨l0,s0,hX2⟩:∃l0 s0,X.2=l0::s0:=by
   have h1:=Us.out;have h2:=kZ.out.1
   cases hx:X.2 with
   | nil=>
    rw[hx]at h1
    cases s with
    | nil=>cases h2
    | cons a t=>cases h1
   | cons a t=>exact⟨a,t,rfl⟩
  have jr:(X.1,(l.foldl (fun a y=>cZ a y.1 y.2) l0)::s0)=Q:=by
   rw[<- HQ.out,bF.out,HL.out,HX.out,Mw.out,hX2];rfl
  obtain⟨b0,m0,p0,ms0,hp0,hms0,hbb0,hbm0,O5,Ri,hst0⟩:∃b' m' p' ms',p=some ⟨b',0,none⟩/\ms=m'::ms'/\E.base<=b'/\E.base<=m'/\ai bA b' 95 #[.pointer p',.map (some m')]/\aY jg bA m' (jC l0)/\bL bA E.base p' s0 ms':=by
   have:=h10.S;rw[hX2]at this;exact this
  subst hp0;subst hms0;rw[hX2]at h10;obtain⟨ji,hr11,hit,ig,hsz11⟩:=Ag (P:=Tryz.prog) (t:=70) (kt:=9) (et:=3) Tryz.underlying70 G8;have d1:=jD.cell 1;have ld:=jD.lt;have hm0m:m0≠m:=fun e=>NS (.inr (by rw[e];rfl))
  have hb0m:b0≠m0:=fun e=>Ri.qZ O5 e.symm
  obtain⟨it,zb⟩:∃it,bA.heap.size=it:=⟨_,rfl⟩
  have hmit:m<it:=by rw[<- zb];exact G8.lt
  have hm0it:m0<it:=by rw[<- zb];exact Ri.lt
  have hb0it:b0<it:=by rw[<- zb];exact O5.lt
  have hsA:aF (fun g=>g=m0\/it<=g) bA ji:=(aF.refl _ bA).below ig;have HM0:Hid (aY jg ji m0 (jC l0)):=kH (Ri.below ig Ri.lt);have HIT:=kH hit;have HSA:=kH hsA;have H10:=kH h10;have HB0:=kH O5;have kR:=kH jr;have Gw:Hid (m<it/\m0<it/\b0<it/\m0≠m/\b0≠m0/\bA.heap.size=it):=kH ⟨hmit,hm0it,hb0it,hm0m,hb0m,zb⟩;have yU:=kH hX2;clear hit hsA h10 O5 Ri hst0 jr jD G8 k10 NS hmit hm0it hb0it hm0m hb0m hX2 q9 lq9 n9 ln9 HC hsz11 ig hbb0 hbm0;go_wp2_with fail
  first|rw[zb]at HIT⊢ |rw[zb]at HIT
  clear zb;go_loopg [] l.length (fun gk wr=> ∃(left:List (Value×Value)) (lz:kP),gk=left.length/\Hid (mI jg wr m it (jC l) left)/\Hid (aF (fun g=>g=m0\/it<=g) bA wr)/\Hid (aY jg wr m0 (jC lz))/\Hid ((left=(jC l).map (fun x=>(jg.qa x.1,x.2))/\lz=l0)\/(left=[]/\lz=(l.foldl (fun a y=>cZ a y.1 y.2) l0))))
  case atStart=>exact⟨_,l0,by simp[jC],HIT,HSA,HM0,kH (.inl ⟨rfl,rfl⟩)⟩
  case round=>
   obtain⟨left,lz,hgk',HI,Oz,HM',HD'⟩:=hrel;have aaW:=HB0.out.since Oz.out (by have:=Gw.out;omega);rcases Cg (P:=Tryz.prog) 0 HI.out (by have:=Gw.out;omega) with⟨hl0,hnx⟩| ⟨kv,vv,left',w2,hperm,hmem,hnx,hit2,FN,hsz2,hent⟩
   ·subst hl0
    have hlz:lz=(l.foldl (fun a y=>cZ a y.1 y.2) l0):=by
     rcases HD'.out with⟨h1,h2⟩| ⟨-,h2⟩
     ·have h3:=congrArg List.length h1
      simp[jC]at h3;rw[h2,List.length_eq_zero_iff.1 h3.symm];rfl
     ·exact h2
    have hs0:aF (fun g=>g=m0) bA wr:=⟨Oz.out.os,Oz.out.tape,Oz.out.output,Oz.out.size,fun g hg hn=>Oz.out.block g hg (fun h=>h.elim hn (fun h=>by have:=Gw.out;omega))⟩
    have HE:Hid (∃V',aV E G Q.1 V' wr/\bL wr E.base (some ⟨b0,0,none⟩) Q.2 (m0::ms0)/\KX E (fun g=>g=E.vi\/(m0::ms0).head? =some g) w wr):=kH (by
     rw[<- kR.out,<- hlz]
     exact(H10.out.store hsep hs0 HM'.out (.inl (.inr rfl))).end_)
    clear hs0 hlz aaW HI Oz HM' HD';go_wp2_with fail
    try simp only[Exit.inBlock,Exit.then]
    refine bodyPost_ret (results_none rfl _ _ _) rfl ?_;exact⟨rfl,HE.out⟩
   ·obtain⟨y,n,hl,hkv,hvv,hleft,hlz⟩:∃y n,l=[(y,n)]/\kv= .string y/\vv= .int .i64 n/\left'=[]/\lz=l0:=by
     rcases HD'.out with⟨h1,h2⟩| ⟨h1,-⟩
     ·have h3:=tN.out
      cases hl:l with
      | nil=>
       rw[h1,hl]at hperm;exact absurd hperm.length_eq (by simp[jC])
      | cons z l'=>
       rw[hl]at h3;have h4:l'=[]:=by simp at h3;exact h3
       subst h4;obtain⟨y,n⟩:=z;rw[h1,hl]at hperm;have h5:=List.perm_singleton.1 hperm.symm;simp only[List.cons.injEq,Prod.mk.injEq]at h5;exact⟨y,n,rfl,h5.1.1,h5.1.2,h5.2,h2⟩
     ·rw[h1]at hperm
      exact absurd hperm.length_eq (by simp)
    subst hkv hvv hleft;obtain⟨w3,hrun,eu,hg3,hz3⟩:=fF (P:=Tryz.prog) (KK:=jg) (t:=70) (kt:=9) (et:=3) Tryz.underlying70 Tryz.underlying9 (HM'.out.since FN (by have:=Gw.out;omega)) y (.int .i64 n);change (Instr.mapUpdate 70 (.map (some m0)) (Value.string y) (.int .i64 n)).run Tryz.prog w2=_ at hrun;rw[xO]at eu;have aaV:=aaW.since FN (by have:=Gw.out;omega);have e1:=aaV.cell 1;have le:=aaV.lt;have hs2:aF (fun g=>g=m0\/it<=g) bA w2:=Oz.out.trans (aF.mono FN (fun g hg=>.inr (by omega)));have hs3:aF (fun g=>g=m0\/it<=g) bA w3:=hs2.trans ((aF.refl (fun g=>g=m0\/it<=g) w2).grown hg3 (fun k hk=>by cases hk;exact .inl (.inl rfl)));have hit3:=hit2.grown hg3 (by simp;have:=Gw.out;omega) (by simp;have:=Gw.out;omega);have iQ:=kH hs3;have HM3:=kH eu;have HI3:=kH hit3;have HLL2:=kH hl;have HLZ:=kH hlz;have Mr:=kH hperm;clear hs2 hs3 eu hit3 hl hlz hperm hmem hit2 FN hsz2 hg3 hz3 aaW aaV;go_wp2_with fail
    go_roundg (gk - 1)
    case measure=>have h9:left.length=1:=Mr.out.length_eq;omega
    case rel=>
     refine⟨[],cZ l0 y n,by have h9:left.length=1:=Mr.out.length_eq;show gk - 1=0;omega,HI3,iQ,?_,kH (.inr ⟨rfl,?_⟩)⟩
     ·rw[HLZ.out]at HM3
      exact HM3
     ·rw[HLL2.out]
      rfl
theorem ZN(E:RC)(G:bf)(B:Nat)(hB:B<=E.base)(x:ByteArray)(a e:Int)(kids:List ae)(hih:∀k∈kids,gz E G B k):gz E G B (.node 19 x a e kids):=by
 intro i s p ms r V w A c h hs hsep hk hcap hbase hv hrb;obtain⟨nk,hnk⟩:∃q,kids.length=q:=⟨_,rfl⟩
 have hvk:lU s.isEmpty kids=true:=by
  rw[qb,if_neg (by decide),if_neg (by decide),if_neg (by decide)]at hv;exact hv
 have hq:aJ G i (ae.node 19 x a e kids) s r=ah G i kids 0 kids.length s (iN G s r (aC r i (aj (ak s))) (ae.node 19 x a e kids)):=by
  rw[dh];repeat (rw[if_neg (by decide)])
 rw[hq];obtain⟨Q,hQ⟩:∃Q,ah G i kids 0 kids.length s (iN G s r (aC r i (aj (ak s))) (ae.node 19 x a e kids))=Q:=⟨_,rfl⟩
 rw[hQ];have HQ:=kH hQ;clear hq hQ;rw[show bD (ae.node 19 x a e kids) A c= .agg #[.int .i64 19,.string x,.int .i64 a,.int .i64 e,.slice A nk c] by rw[<- hnk];rfl];obtain⟨nx,bF,hnb,xW,ry,hrw,hwn,hfx⟩:=CS h hrb hnk;have H:=kH h;have HS:=kH hs;have HK:Hid (aK w B A 0 kids):=kH hk;have dH:=kH hrb;have fQ:=kH hnk;have kZ:=kH hvk;have fD:=kH hih;have HCAP:Hid (nk<=c):=kH (by rw[<- hnk];exact hcap);have dC:=kH hbase;clear h hs hk hrb hnk hvk hih hv hcap hbase;go_enter Tryz.func79,Tryz.ntmps79
 go_upto_if 32 with fail
 generalize hW3:World.alloc (World.alloc (World.setCell w _ _) _) _=W3
 obtain⟨HR3,gM,iQ,jH,iM,c5,p0,qy,rf⟩:=CR H HS hW3;clear hW3 ry hfx;go_cut [] (fun wx=> ∃Vx,Hid (aV E G (aC r i (aj (ak s))) Vx wx)/\Hid (KX E (fun g=>g=E.vi) W3 wx))
 case first=>
  cases i with
  | false=>
   go_wp2_with fail
   go_meet
   exact⟨V,by have:=HR3.out;rw[<- bF.out]at this;exact kH this,kH (KX.refl _ _ _)⟩
  | true=>
   obtain⟨iO,dU,hs0⟩:=CQ HR3 iM iQ dH bF hnb;go_wp2_with fail
   go_region_held3 (fun w'=>w'.cell? ⟨E.rp,5,none⟩=some (.map (some E.vi))/\w'.cell? ⟨w.heap.size,0,none⟩=some (.pointer (some ⟨E.rp,0,none⟩))) (exact dU.out _ (by assumption)) ((go_at_call 145;refine iO.out.mono ?_;rintro e5 w5 ⟨v5,rfl,jR,hb5⟩;obtain⟨hs5,w6,hrun,lF,hs7⟩:=CP HR3 hb5 hs0 v5))
   have HX:=kH (CO HR3 gM dH bF dC hb5 jR lF);clear hs5 hs7 lF hb5 jR hs0 hrun;go_wp2_with fail
   go_meet
   exact HX.out
 case rest=>
  obtain⟨Vx,gW,mH⟩:=hcut;obtain⟨HV,HD,qF,HU,rY⟩:=CL hB hsep gW mH HR3 gM iQ jH iM HK dH bF dC hnb;obtain⟨gi,gb,uO,zx,hlk⟩:=CK gW x;obtain⟨⟨q0,lp⟩,⟨n0,n1,n2,n3,n4,ln⟩,⟨c0,c1,c2,c8,lr⟩⟩:=HV.out.cells;clear c5 p0 qy rf c8;obtain⟨tq,rq⟩:∃tq,((aT G.globals x).filter fun j=>decide (jw G j=5))=tq:=⟨_,rfl⟩
  have HTQ:=kH rq
  have jr:ah G i kids 0 nk s (gT (aC r i (aj (ak s))) nx (ae.node 19 x a e kids) tq)=Q:=by
   rw[<- HQ.out,fQ.out,<- rq,<- bF.out];rfl
  have kR:=kH jr;have pW:Hid (rC r (gT (aC r i (aj (ak s))) nx (ae.node 19 x a e kids) tq)):=kH (by have:=dM.DC r i (aj (ak s)) (ae.node 19 x a e kids) tq;rw[bF.out]at this;exact this);have fC:Hid ((gT (aC r i (aj (ak s))) nx (ae.node 19 x a e kids) tq).next=r.next+1):=kH (by cases tq<;>rfl);clear jr;obtain⟨kk,hkk⟩:∃q,jw G gi=q:=⟨_,rfl⟩
  have hty:∀k,tq=some k->k=gi:=fun k hk=>by
   rw[<- rq]at hk;rw[<- uO.out]
   cases hl:bG G.globals x with
   | none=>rw[show aT G.globals x=none from hl]at hk;cases hk
   | some y=>
    rw[show aT G.globals x=some y from hl]at hk;have:=(Option.filter_eq_some_iff.1 hk).1;simp only[abJ]at this;rw[<- this];rfl
  have htb:tq.isSome=(gb&&(kk==5)):=by
   rw[<- rq,<- zx.out,<- hkk,<- uO.out]
   cases hl:bG G.globals x with
   | none=>rw[show aT G.globals x=none from hl];rfl
   | some y=>
    rw[show aT G.globals x=some y from hl];show(Option.filter (fun j=>decide (jw G j=5)) (some y)).isSome=(true&&(jw G y==5));by_cases hy:jw G y=5
    ·simp[hy]
    ·simp[hy]
  have kF:∀r' V' w',VW E G B ⟨kids,19,x,a,e,A,nk,c,w.heap.size+1,w.heap.size⟩ w (fun g=>g=E.vi\/ms.head? =some g) r' V' s p ms w'->(w'.cell? ⟨w.heap.size,0,none⟩=some (.pointer (some ⟨E.rp,0,none⟩))/\w'.cell? ⟨w.heap.size+1,0,none⟩=some (.int .i64 19)/\w'.cell? ⟨w.heap.size+1,1,none⟩=some (.string x)/\w'.cell? ⟨w.heap.size+1,2,none⟩=some (.int .i64 a)/\w'.cell? ⟨w.heap.size+1,3,none⟩=some (.int .i64 e)/\w'.cell? ⟨w.heap.size+1,4,none⟩=some (.slice A nk c)/\w'.cell? ⟨E.rp,2,none⟩=some (.map (some E.k))/\(Instr.lookup 71 (.map (some E.k)) (.int .i64 gi) false).run Tryz.prog w'= .ok (.int .i64 kk) w'):=fun r' V' w' hv=>by
   obtain⟨⟨y0,-⟩,⟨z0,z1,z2,z3,z4,-⟩,⟨-,-,d2,-,-⟩⟩:=hv.cells;exact⟨y0,z0,z1,z2,z3,z4,d2,by have:=uH w' E.k G.kinds hv.R.kn gi;rw[show(bG G.kinds gi).getD 0=kk from hkk]at this;exact this⟩
  have dU:=kH kF;have nO:=fun q=>((HV.out.drewN q).drew).Jb (ae.node 19 x a e kids) ⟨rfl,rfl,rfl,rfl,rfl⟩ fQ.out qF.out nx HU.out tq gi hty
  rw[htb]at nO;have NM:=fun q=>(HV.out.drewN q).drew
  have R8:=kH NM;have hlf:=fun q=>uH (wc.drewN q) E.k G.kinds (aY.drewN gW.out.kn q) gi
  rw[show(bG G.kinds gi).getD 0=kk from hkk]at hlf;clear kF NM rq hty htb hkk
  cases gb with
  | false=>
   rw[Bool.false_and]at nO;have qd:=kH nO;clear nO;go_wp2_with fail
   go_quiet (fail)
   go_wp2_with fail
   have hS0:=dU.out _ _ _ (R8.out nq);refine dZ (fun w'=>(w'.cell? ⟨w.heap.size,0,none⟩=some (.pointer (some ⟨E.rp,0,none⟩))/\w'.cell? ⟨w.heap.size+1,0,none⟩=some (.int .i64 19)/\w'.cell? ⟨w.heap.size+1,1,none⟩=some (.string x)/\w'.cell? ⟨w.heap.size+1,2,none⟩=some (.int .i64 a)/\w'.cell? ⟨w.heap.size+1,3,none⟩=some (.int .i64 e)/\w'.cell? ⟨w.heap.size+1,4,none⟩=some (.slice A nk c)/\w'.cell? ⟨E.rp,2,none⟩=some (.map (some E.k))/\(Instr.lookup 71 (.map (some E.k)) (.int .i64 gi) false).run Tryz.prog w'= .ok (.int .i64 kk) w')) [] [true,true,true,true,true,true,true,true,true,true,true,true,true,true,false] (by kernel_rfl) (by kernel_rfl) rfl (by kernel_rfl) ?_;iterate 14((first|(refine eG (by rfl) hS0 ?_)|(refine dz (by rfl) hS0 (by intro w' hSw;obtain⟨hs1,hs2,hs3,hs4,hs5,hs6,hs7,jQ⟩:=hSw;go_simp;rfl) ?_));simp only[Act.put,sA,sZ,sC])
   refine gm (by rfl) (by go_simp) ((qd.out _).mono ?_);rintro e8 w8 ⟨rfl,V8,h8⟩;refine⟨_,rfl,fun _=>dU.out _ _ _ h8,?_⟩;simp only[Act.put,sA,sZ,sC];refine iU ?_;obtain⟨⟨q8,Ap⟩,⟨-,-,-,-,n8,Ij⟩,-⟩:=h8.cells;have hcall:=h8.kids fD.out i 0 nk nk (by omega) fQ.out (by show 0+nk<=nk;omega) HCAP.out kZ.out (dH.out.kids (t:=(ae.node 19 x a e kids)) pW.out (Nat.add_le_add_left pW.out.next _) (rY.out _ fC.out)) hsep (fun g hg=>.inl hg);rw[kR.out]at hcall;have HC:=kH hcall;clear hcall h8;go_wp2_with fail
   refine HC.out.mono ?_;rintro e10 bA ⟨rfl,-,yT,h10⟩;have HE:Hid (∃V',aV E G Q.1 V' bA/\bL bA E.base p Q.2 ms/\KX E (fun g=>g=E.vi\/ms.head? =some g) w bA):=kH h10.end_;clear h10 HC q8 n8;go_wp2_with fail
   go_end0
   exact⟨rfl,HE.out⟩
  | true=>
   rw[Bool.true_and]at nO;have qd:=kH nO;clear nO;go_wp2_with fail
   go_quiet (fail)
   go_wp2_with fail
   have hS0:=dU.out _ _ _ (R8.out nq);refine dZ (fun w'=>(w'.cell? ⟨w.heap.size,0,none⟩=some (.pointer (some ⟨E.rp,0,none⟩))/\w'.cell? ⟨w.heap.size+1,0,none⟩=some (.int .i64 19)/\w'.cell? ⟨w.heap.size+1,1,none⟩=some (.string x)/\w'.cell? ⟨w.heap.size+1,2,none⟩=some (.int .i64 a)/\w'.cell? ⟨w.heap.size+1,3,none⟩=some (.int .i64 e)/\w'.cell? ⟨w.heap.size+1,4,none⟩=some (.slice A nk c)/\w'.cell? ⟨E.rp,2,none⟩=some (.map (some E.k))/\(Instr.lookup 71 (.map (some E.k)) (.int .i64 gi) false).run Tryz.prog w'= .ok (.int .i64 kk) w')) [] [true,true,true,true,true,true,true,true,true,true,true,true,true,true,false] (by kernel_rfl) (by kernel_rfl) rfl (by kernel_rfl) ?_;iterate 14((first|(refine eG (by rfl) hS0 ?_)|(refine dz (by rfl) hS0 (by intro w' hSw;obtain⟨hs1,hs2,hs3,hs4,hs5,hs6,hs7,jQ⟩:=hSw;go_simp;rfl) ?_));simp only[Act.put,sA,sZ,sC])
   refine gm (by rfl) (by go_simp) ((qd.out _).mono ?_);rintro e8 w8 ⟨rfl,V8,h8⟩;refine⟨_,rfl,fun _=>dU.out _ _ _ h8,?_⟩;simp only[Act.put,sA,sZ,sC];refine iU ?_;obtain⟨⟨q8,Ap⟩,⟨-,-,-,-,n8,Ij⟩,-⟩:=h8.cells;have hcall:=h8.kids fD.out i 0 nk nk (by omega) fQ.out (by show 0+nk<=nk;omega) HCAP.out kZ.out (dH.out.kids (t:=(ae.node 19 x a e kids)) pW.out (Nat.add_le_add_left pW.out.next _) (rY.out _ fC.out)) hsep (fun g hg=>.inl hg);rw[kR.out]at hcall;have HC:=kH hcall;clear hcall h8;go_wp2_with fail
   refine HC.out.mono ?_;rintro e10 bA ⟨rfl,-,yT,h10⟩;have HE:Hid (∃V',aV E G Q.1 V' bA/\bL bA E.base p Q.2 ms/\KX E (fun g=>g=E.vi\/ms.head? =some g) w bA):=kH h10.end_;clear h10 HC q8 n8;go_wp2_with fail
   go_end0
   exact⟨rfl,HE.out⟩
end Go.Proofs.YtoepemlnlpamlaaGreat
