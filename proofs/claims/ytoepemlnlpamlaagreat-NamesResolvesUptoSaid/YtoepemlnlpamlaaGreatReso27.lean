/- The law NamesResolves holds where what it reads is of bulk at most 1048576: it returns true, and its argument reads as before. Part 27: VisA0 VisA1 VisA2 VisA3 VisB0 VisB1 VisB2 VisB3 VisX. -/
import Derived.Test.YtoepemlnlpamlaaGreatReso13
import Derived.Test.YtoepemlnlpamlaaGreatReso26
set_option maxRecDepth 100000
set_option maxHeartbeats 4000000
namespace Go.Proofs.YtoepemlnlpamlaaGreat
open Go.RowKit
theorem SC(E:RC)(G:bf)(B:Nat)(hB:B<=E.base)(k:Int)(x:ByteArray)(a e:Int)(kids:List ae)(hih:∀k∈kids,gz E G B k)(hk3:¬k=3)(hk4:¬k=4)(hk5:¬k=5)(hk7:¬k=7)(AJ:¬k=8)(JN:¬k=11)(pO:¬k=12)(pM:¬k=16)(FR:¬k=20)(aaF:¬k=22)(aaE:¬k=27)(aaG:¬k=19)(vU:¬k=9):gz E G B (.node k x a e kids):=by
 intro i s p ms r V w A c h hs hsep hk hcap hbase hv hrb;obtain⟨nk,hnk⟩:∃q,kids.length=q:=⟨_,rfl⟩
 have hvk:lU s.isEmpty kids=true:=by
  rw[qb,if_neg hk5,if_neg JN,if_neg (by omega)]at hv;exact hv
 have hq:aJ G i (ae.node k x a e kids) s r=ah G i kids 0 kids.length s (iN G s r (aC r i (aj (ak s))) (ae.node k x a e kids)):=by
  rw[dh,if_neg hk3,if_neg hk4,if_neg hk5,if_neg (by omega),if_neg JN,if_neg pO,if_neg pM]
 rw[hq];obtain⟨Q,hQ⟩:∃Q,ah G i kids 0 kids.length s (iN G s r (aC r i (aj (ak s))) (ae.node k x a e kids))=Q:=⟨_,rfl⟩
 rw[hQ];have HQ:=kH hQ;clear hq hQ;rw[show bD (ae.node k x a e kids) A c= .agg #[.int .i64 k,.string x,.int .i64 a,.int .i64 e,.slice A nk c] by rw[<- hnk];rfl];obtain⟨nx,bF,hnb,xW,ry,hrw,hwn,hfx⟩:=CS h hrb hnk;have H:=kH h;have HS:=kH hs;have HK:Hid (aK w B A 0 kids):=kH hk;have dH:=kH hrb;have fQ:=kH hnk;have kZ:=kH hvk;have fD:=kH hih;have HCAP:Hid (nk<=c):=kH (by rw[<- hnk];exact hcap);have dC:=kH hbase;clear h hs hk hrb hnk hvk hih hv hcap hbase;go_enter Tryz.func79,Tryz.ntmps79
 go_upto_if 32 with fail
 generalize hW3:World.alloc (World.alloc (World.setCell w _ _) _) _=W3
 obtain⟨HR3,gM,iQ,jH,iM,c5,p0,qy,rf⟩:=CR H HS hW3;clear hW3 ry hfx;go_cut [] (fun wx=> ∃Vx,Hid (aV E G (aC r i (aj (ak s))) Vx wx)/\Hid (KX E (fun g=>g=E.vi) W3 wx))
 case first=>
  cases i with
  | false=>
   go_wp2_with fail
   go_meet
   exact⟨V,by have:=HR3.out;rw[<- bF.out]at this;exact kH this,kH (KX.refl _ _ _)⟩
  | true=>
   obtain⟨iO,dU,hs0⟩:=CQ HR3 iM iQ dH bF hnb;go_wp2_with fail
   go_region_held3 (fun w'=>w'.cell? ⟨E.rp,5,none⟩=some (.map (some E.vi))/\w'.cell? ⟨w.heap.size,0,none⟩=some (.pointer (some ⟨E.rp,0,none⟩))) (exact dU.out _ (by assumption)) ((go_at_call 145;refine iO.out.mono ?_;rintro e5 w5 ⟨v5,rfl,jR,hb5⟩;obtain⟨hs5,w6,hrun,lF,hs7⟩:=CP HR3 hb5 hs0 v5))
   have HX:=kH (CO HR3 gM dH bF dC hb5 jR lF);clear hs5 hs7 lF hb5 jR hs0 hrun;go_wp2_with fail
   go_meet
   exact HX.out
 case rest=>
  obtain⟨Vx,gW,mH⟩:=hcut;obtain⟨HV,HD,qF,HU,rY⟩:=CL hB hsep gW mH HR3 gM iQ jH iM HK dH bF dC hnb;obtain⟨gi,gb,uO,zx,hlk⟩:=CK gW x;obtain⟨⟨q0,lp⟩,⟨n0,n1,n2,n3,n4,ln⟩,⟨c0,c1,c2,c8,lr⟩⟩:=HV.out.cells;clear c5 p0 qy rf c8
  have hu:iN G s r (aC r i (aj (ak s))) (ae.node k x a e kids)=(aC r i (aj (ak s))):=by
   unfold iN;show(if k=20 then _ else if k=22 then _ else if k=27 then _ else if k=19 then _ else if k=9/\dJ x=false then _ else _)=_;rw[if_neg FR,if_neg aaF,if_neg aaE,if_neg aaG,if_neg (fun(h:k=9/\dJ x=false)=>vU h.1)]
  have hcall:=fun q=>(HV.out.drewN q).kids fD.out i 0 nk nk (by omega) fQ.out (by show 0+nk<=nk;omega) HCAP.out kZ.out (dH.out.kids (t:=(ae.node k x a e kids)) (dM.none_ r i _) (Nat.add_le_add_left (Nat.le_succ _) _) (rY.out _ rfl)) hsep (fun g hg=>.inl hg)
  have jr:ah G i kids 0 nk s (aC r i (aj (ak s)))=Q:=by rw[<- HQ.out,hu,fQ.out]
  have kR:=kH jr;have GG:=kH hcall;clear hcall jr hu;go_wp2_with fail
  go_quiet (fail)
  go_wp2_with fail
  refine(GG.out _).mono ?_;rintro e10 bA ⟨rfl,-,yT,h10⟩;have HE:Hid (∃V',aV E G Q.1 V' bA/\bL bA E.base p Q.2 ms/\KX E (fun g=>g=E.vi\/ms.head? =some g) w bA):=kH (by rw[<- kR.out];exact h10.end_);clear h10 GG;go_wp2_with fail
  go_end0
  exact⟨rfl,HE.out⟩
theorem UU(E:RC)(G:bf)(B:Nat)(hB:B<=E.base)(x:ByteArray)(a e:Int)(kids:List ae)(hih:∀k∈kids,gz E G B k):gz E G B (.node 20 x a e kids):=by
 intro i s p ms r V w A c h hs hsep hk hcap hbase hv hrb;obtain⟨nk,hnk⟩:∃q,kids.length=q:=⟨_,rfl⟩
 have hvk:lU s.isEmpty kids=true:=by
  rw[qb,if_neg (by decide),if_neg (by decide),if_neg (by decide)]at hv;exact hv
 have hq:aJ G i (ae.node 20 x a e kids) s r=ah G i kids 0 kids.length s (iN G s r (aC r i (aj (ak s))) (ae.node 20 x a e kids)):=by
  rw[dh];repeat (rw[if_neg (by decide)])
 rw[hq];obtain⟨Q,hQ⟩:∃Q,ah G i kids 0 kids.length s (iN G s r (aC r i (aj (ak s))) (ae.node 20 x a e kids))=Q:=⟨_,rfl⟩
 rw[hQ];have HQ:=kH hQ;clear hq hQ;rw[show bD (ae.node 20 x a e kids) A c= .agg #[.int .i64 20,.string x,.int .i64 a,.int .i64 e,.slice A nk c] by rw[<- hnk];rfl];obtain⟨nx,bF,hnb,xW,ry,hrw,hwn,hfx⟩:=CS h hrb hnk;have H:=kH h;have HS:=kH hs;have HK:Hid (aK w B A 0 kids):=kH hk;have dH:=kH hrb;have fQ:=kH hnk;have kZ:=kH hvk;have fD:=kH hih;have HCAP:Hid (nk<=c):=kH (by rw[<- hnk];exact hcap);have dC:=kH hbase;clear h hs hk hrb hnk hvk hih hv hcap hbase;go_enter Tryz.func79,Tryz.ntmps79
 go_upto_if 32 with fail
 generalize hW3:World.alloc (World.alloc (World.setCell w _ _) _) _=W3
 obtain⟨HR3,gM,iQ,jH,iM,c5,p0,qy,rf⟩:=CR H HS hW3;clear hW3 ry hfx;go_cut [] (fun wx=> ∃Vx,Hid (aV E G (aC r i (aj (ak s))) Vx wx)/\Hid (KX E (fun g=>g=E.vi) W3 wx))
 case first=>
  cases i with
  | false=>
   go_wp2_with fail
   go_meet
   exact⟨V,by have:=HR3.out;rw[<- bF.out]at this;exact kH this,kH (KX.refl _ _ _)⟩
  | true=>
   obtain⟨iO,dU,hs0⟩:=CQ HR3 iM iQ dH bF hnb;go_wp2_with fail
   go_region_held3 (fun w'=>w'.cell? ⟨E.rp,5,none⟩=some (.map (some E.vi))/\w'.cell? ⟨w.heap.size,0,none⟩=some (.pointer (some ⟨E.rp,0,none⟩))) (exact dU.out _ (by assumption)) ((go_at_call 145;refine iO.out.mono ?_;rintro e5 w5 ⟨v5,rfl,jR,hb5⟩;obtain⟨hs5,w6,hrun,lF,hs7⟩:=CP HR3 hb5 hs0 v5))
   have HX:=kH (CO HR3 gM dH bF dC hb5 jR lF);clear hs5 hs7 lF hb5 jR hs0 hrun;go_wp2_with fail
   go_meet
   exact HX.out
 case rest=>
  obtain⟨Vx,gW,mH⟩:=hcut;obtain⟨HV,HD,qF,HU,rY⟩:=CL hB hsep gW mH HR3 gM iQ jH iM HK dH bF dC hnb;obtain⟨gi,gb,uO,zx,hlk⟩:=CK gW x;obtain⟨⟨q0,lp⟩,⟨n0,n1,n2,n3,n4,ln⟩,⟨c0,c1,c2,c8,lr⟩⟩:=HV.out.cells;clear c5 p0 qy rf c8;obtain⟨tq,rq⟩:∃tq,eP s x=tq:=⟨_,rfl⟩
  have HTQ:=kH rq
  have jr:ah G i kids 0 nk s (gT (aC r i (aj (ak s))) nx (ae.node 20 x a e kids) tq)=Q:=by
   rw[<- HQ.out,fQ.out,<- rq,<- bF.out];rfl
  have kR:=kH jr;have pW:Hid (rC r (gT (aC r i (aj (ak s))) nx (ae.node 20 x a e kids) tq)):=kH (by have:=dM.DC r i (aj (ak s)) (ae.node 20 x a e kids) tq;rw[bF.out]at this;exact this);have fC:Hid ((gT (aC r i (aj (ak s))) nx (ae.node 20 x a e kids) tq).next=r.next+1):=kH (by cases tq<;>rfl);clear jr;have hfind:=fun q=>JZ E.base x (wc.drewN q) s p ms ((HV.out.drewN q).S)
  have nO:=fun q=>(HV.out.drewN q).Jb (ae.node 20 x a e kids) ⟨rfl,rfl,rfl,rfl,rfl⟩ fQ.out qF.out nx HU.out tq (tq.getD 0) (fun k hk=>by rw[hk];rfl)
  rw[rq]at hfind;have HF:=kH hfind;have qd:=kH nO;clear hfind nO rq;go_wp2_with fail
  go_quiet (fail)
  go_wp2_with fail
  refine(HF.out _).mono ?_;rintro e7 w7 ⟨rfl,hw7⟩;subst hw7;go_wp2_with fail
  refine(qd.out _).mono ?_;rintro e8 w8 ⟨rfl,V8,h8⟩;obtain⟨⟨q8,Ap⟩,⟨-,-,-,-,n8,Ij⟩,-⟩:=h8.cells;have hcall:=h8.kids fD.out i 0 nk nk (by omega) fQ.out (by show 0+nk<=nk;omega) HCAP.out kZ.out (dH.out.kids (t:=(ae.node 20 x a e kids)) pW.out (Nat.add_le_add_left pW.out.next _) (rY.out _ fC.out)) hsep (fun g hg=>.inl hg);rw[kR.out]at hcall;have HC:=kH hcall;clear hcall h8;go_wp2_with fail
  refine HC.out.mono ?_;rintro e10 bA ⟨rfl,-,yT,h10⟩;have HE:Hid (∃V',aV E G Q.1 V' bA/\bL bA E.base p Q.2 ms/\KX E (fun g=>g=E.vi\/ms.head? =some g) w bA):=kH h10.end_;clear h10 HC q8 n8;go_wp2_with fail
  go_end0
  exact⟨rfl,HE.out⟩
theorem UX(E:RC)(G:bf)(B:Nat)(hB:B<=E.base)(x:ByteArray)(a e:Int)(kids:List ae)(hih:∀k∈kids,gz E G B k):gz E G B (.node 27 x a e kids):=by
 intro i s p ms r V w A c h hs hsep hk hcap hbase hv hrb;obtain⟨nk,hnk⟩:∃q,kids.length=q:=⟨_,rfl⟩
 have hvk:lU s.isEmpty kids=true:=by
  rw[qb,if_neg (by decide),if_neg (by decide),if_neg (by decide)]at hv;exact hv
 have hq:aJ G i (ae.node 27 x a e kids) s r=ah G i kids 0 kids.length s (iN G s r (aC r i (aj (ak s))) (ae.node 27 x a e kids)):=by
  rw[dh];repeat (rw[if_neg (by decide)])
 rw[hq];obtain⟨Q,hQ⟩:∃Q,ah G i kids 0 kids.length s (iN G s r (aC r i (aj (ak s))) (ae.node 27 x a e kids))=Q:=⟨_,rfl⟩
 rw[hQ];have HQ:=kH hQ;clear hq hQ;rw[show bD (ae.node 27 x a e kids) A c= .agg #[.int .i64 27,.string x,.int .i64 a,.int .i64 e,.slice A nk c] by rw[<- hnk];rfl];obtain⟨nx,bF,hnb,xW,ry,hrw,hwn,hfx⟩:=CS h hrb hnk;have H:=kH h;have HS:=kH hs;have HK:Hid (aK w B A 0 kids):=kH hk;have dH:=kH hrb;have fQ:=kH hnk;have kZ:=kH hvk;have fD:=kH hih;have HCAP:Hid (nk<=c):=kH (by rw[<- hnk];exact hcap);have dC:=kH hbase;clear h hs hk hrb hnk hvk hih hv hcap hbase;go_enter Tryz.func79,Tryz.ntmps79
 go_upto_if 32 with fail
 generalize hW3:World.alloc (World.alloc (World.setCell w _ _) _) _=W3
 obtain⟨HR3,gM,iQ,jH,iM,c5,p0,qy,rf⟩:=CR H HS hW3;clear hW3 ry hfx;go_cut [] (fun wx=> ∃Vx,Hid (aV E G (aC r i (aj (ak s))) Vx wx)/\Hid (KX E (fun g=>g=E.vi) W3 wx))
 case first=>
  cases i with
  | false=>
   go_wp2_with fail
   go_meet
   exact⟨V,by have:=HR3.out;rw[<- bF.out]at this;exact kH this,kH (KX.refl _ _ _)⟩
  | true=>
   obtain⟨iO,dU,hs0⟩:=CQ HR3 iM iQ dH bF hnb;go_wp2_with fail
   go_region_held3 (fun w'=>w'.cell? ⟨E.rp,5,none⟩=some (.map (some E.vi))/\w'.cell? ⟨w.heap.size,0,none⟩=some (.pointer (some ⟨E.rp,0,none⟩))) (exact dU.out _ (by assumption)) ((go_at_call 145;refine iO.out.mono ?_;rintro e5 w5 ⟨v5,rfl,jR,hb5⟩;obtain⟨hs5,w6,hrun,lF,hs7⟩:=CP HR3 hb5 hs0 v5))
   have HX:=kH (CO HR3 gM dH bF dC hb5 jR lF);clear hs5 hs7 lF hb5 jR hs0 hrun;go_wp2_with fail
   go_meet
   exact HX.out
 case rest=>
  obtain⟨Vx,gW,mH⟩:=hcut;obtain⟨HV,HD,qF,HU,rY⟩:=CL hB hsep gW mH HR3 gM iQ jH iM HK dH bF dC hnb;obtain⟨gi,gb,uO,zx,hlk⟩:=CK gW x;obtain⟨⟨q0,lp⟩,⟨n0,n1,n2,n3,n4,ln⟩,⟨c0,c1,c2,c8,lr⟩⟩:=HV.out.cells;clear c5 p0 qy rf c8;obtain⟨tq,rq⟩:∃tq,aT G.globals x=tq:=⟨_,rfl⟩
  have HTQ:=kH rq
  have jr:ah G i kids 0 nk s (gT (aC r i (aj (ak s))) nx (ae.node 27 x a e kids) tq)=Q:=by
   rw[<- HQ.out,fQ.out,<- rq,<- bF.out];rfl
  have kR:=kH jr;have pW:Hid (rC r (gT (aC r i (aj (ak s))) nx (ae.node 27 x a e kids) tq)):=kH (by have:=dM.DC r i (aj (ak s)) (ae.node 27 x a e kids) tq;rw[bF.out]at this;exact this);have fC:Hid ((gT (aC r i (aj (ak s))) nx (ae.node 27 x a e kids) tq).next=r.next+1):=kH (by cases tq<;>rfl);clear jr;have nO:=fun q=>(HV.out.drewN q).Jb (ae.node 27 x a e kids) ⟨rfl,rfl,rfl,rfl,rfl⟩ fQ.out qF.out nx HU.out tq (tq.getD 0) (fun k hk=>by rw[hk];rfl)
  have e1:tq.getD 0=gi:=by rw[<- uO.out,<- rq]
  have e2:tq.isSome=gb:=by rw[<- zx.out,<- rq]
  rw[e1,e2]at nO;have qd:=kH nO;clear nO rq e1 e2;go_wp2_with fail
  go_quiet (fail)
  go_wp2_with fail
  refine(qd.out _).mono ?_;rintro e8 w8 ⟨rfl,V8,h8⟩;obtain⟨⟨q8,Ap⟩,⟨-,-,-,-,n8,Ij⟩,-⟩:=h8.cells;have hcall:=h8.kids fD.out i 0 nk nk (by omega) fQ.out (by show 0+nk<=nk;omega) HCAP.out kZ.out (dH.out.kids (t:=(ae.node 27 x a e kids)) pW.out (Nat.add_le_add_left pW.out.next _) (rY.out _ fC.out)) hsep (fun g hg=>.inl hg);rw[kR.out]at hcall;have HC:=kH hcall;clear hcall h8;go_wp2_with fail
  refine HC.out.mono ?_;rintro e10 bA ⟨rfl,-,yT,h10⟩;have HE:Hid (∃V',aV E G Q.1 V' bA/\bL bA E.base p Q.2 ms/\KX E (fun g=>g=E.vi\/ms.head? =some g) w bA):=kH h10.end_;clear h10 HC q8 n8;go_wp2_with fail
  go_end0
  exact⟨rfl,HE.out⟩
theorem Pm(E:RC)(G:bf)(B:Nat)(hB:B<=E.base)(x:ByteArray)(a e:Int)(kids:List ae)(hih:∀k∈kids,gz E G B k):gz E G B (.node 22 x a e kids):=by
 intro i s p ms r V w A c h hs hsep hk hcap hbase hv hrb;obtain⟨nk,hnk⟩:∃q,kids.length=q:=⟨_,rfl⟩
 have hvk:lU s.isEmpty kids=true:=by
  rw[qb,if_neg (by decide),if_neg (by decide),if_neg (by decide)]at hv;exact hv
 have hq:aJ G i (ae.node 22 x a e kids) s r=ah G i kids 0 kids.length s (iN G s r (aC r i (aj (ak s))) (ae.node 22 x a e kids)):=by
  rw[dh];repeat (rw[if_neg (by decide)])
 rw[hq];obtain⟨Q,hQ⟩:∃Q,ah G i kids 0 kids.length s (iN G s r (aC r i (aj (ak s))) (ae.node 22 x a e kids))=Q:=⟨_,rfl⟩
 rw[hQ];have HQ:=kH hQ;clear hq hQ;rw[show bD (ae.node 22 x a e kids) A c= .agg #[.int .i64 22,.string x,.int .i64 a,.int .i64 e,.slice A nk c] by rw[<- hnk];rfl];obtain⟨nx,bF,hnb,xW,ry,hrw,hwn,hfx⟩:=CS h hrb hnk;have H:=kH h;have HS:=kH hs;have HK:Hid (aK w B A 0 kids):=kH hk;have dH:=kH hrb;have fQ:=kH hnk;have kZ:=kH hvk;have fD:=kH hih;have HCAP:Hid (nk<=c):=kH (by rw[<- hnk];exact hcap);have dC:=kH hbase;clear h hs hk hrb hnk hvk hih hv hcap hbase;go_enter Tryz.func79,Tryz.ntmps79
 go_upto_if 32 with fail
 generalize hW3:World.alloc (World.alloc (World.setCell w _ _) _) _=W3
 obtain⟨HR3,gM,iQ,jH,iM,c5,p0,qy,rf⟩:=CR H HS hW3;clear hW3 ry hfx;go_cut [] (fun wx=> ∃Vx,Hid (aV E G (aC r i (aj (ak s))) Vx wx)/\Hid (KX E (fun g=>g=E.vi) W3 wx))
 case first=>
  cases i with
  | false=>
   go_wp2_with fail
   go_meet
   exact⟨V,by have:=HR3.out;rw[<- bF.out]at this;exact kH this,kH (KX.refl _ _ _)⟩
  | true=>
   obtain⟨iO,dU,hs0⟩:=CQ HR3 iM iQ dH bF hnb;go_wp2_with fail
   go_region_held3 (fun w'=>w'.cell? ⟨E.rp,5,none⟩=some (.map (some E.vi))/\w'.cell? ⟨w.heap.size,0,none⟩=some (.pointer (some ⟨E.rp,0,none⟩))) (exact dU.out _ (by assumption)) ((go_at_call 145;refine iO.out.mono ?_;rintro e5 w5 ⟨v5,rfl,jR,hb5⟩;obtain⟨hs5,w6,hrun,lF,hs7⟩:=CP HR3 hb5 hs0 v5))
   have HX:=kH (CO HR3 gM dH bF dC hb5 jR lF);clear hs5 hs7 lF hb5 jR hs0 hrun;go_wp2_with fail
   go_meet
   exact HX.out
 case rest=>
  obtain⟨Vx,gW,mH⟩:=hcut;obtain⟨HV,HD,qF,HU,rY⟩:=CL hB hsep gW mH HR3 gM iQ jH iM HK dH bF dC hnb;obtain⟨gi,gb,uO,zx,hlk⟩:=CK gW x;obtain⟨⟨q0,lp⟩,⟨n0,n1,n2,n3,n4,ln⟩,⟨c0,c1,c2,c8,lr⟩⟩:=HV.out.cells;clear c5 p0 qy rf c8;obtain⟨tq,rq⟩:∃tq,aT G.fields x=tq:=⟨_,rfl⟩
  have HTQ:=kH rq
  have jr:ah G i kids 0 nk s (gT (aC r i (aj (ak s))) nx (ae.node 22 x a e kids) tq)=Q:=by
   rw[<- HQ.out,fQ.out,<- rq,<- bF.out];rfl
  have kR:=kH jr;have pW:Hid (rC r (gT (aC r i (aj (ak s))) nx (ae.node 22 x a e kids) tq)):=kH (by have:=dM.DC r i (aj (ak s)) (ae.node 22 x a e kids) tq;rw[bF.out]at this;exact this);have fC:Hid ((gT (aC r i (aj (ak s))) nx (ae.node 22 x a e kids) tq).next=r.next+1):=kH (by cases tq<;>rfl);clear jr;have nO:=fun q=>(HV.out.drewN q).Jb (ae.node 22 x a e kids) ⟨rfl,rfl,rfl,rfl,rfl⟩ fQ.out qF.out nx HU.out tq (tq.getD 0) (fun k hk=>by rw[hk];rfl)
  have hlf:=fun q q'=>pG ((wc.drewN q).drewN q') E.f G.fields (aY.drewN (aY.drewN gW.out.fl q) q') x
  have wV:=fun q=>pG (wc.drewN q) E.f G.fields (aY.drewN gW.out.fl q) x
  rw[show bG G.fields x=tq from rq]at hlf wV;obtain⟨ti,hti⟩:∃q,tq.getD 0=q:=⟨_,rfl⟩
  obtain⟨tb,htb⟩:∃q,tq.isSome=q:=⟨_,rfl⟩
  rw[hti,htb]at hlf wV nO;have qd:=kH nO;clear nO rq hti htb;go_wp2_with fail
  go_quiet (fail)
  go_wp2_with fail
  go_quiet (fail)
  go_wp2_with fail
  refine(qd.out _).mono ?_;rintro e8 w8 ⟨rfl,V8,h8⟩;obtain⟨⟨q8,Ap⟩,⟨-,-,-,-,n8,Ij⟩,-⟩:=h8.cells;have hcall:=h8.kids fD.out i 0 nk nk (by omega) fQ.out (by show 0+nk<=nk;omega) HCAP.out kZ.out (dH.out.kids (t:=(ae.node 22 x a e kids)) pW.out (Nat.add_le_add_left pW.out.next _) (rY.out _ fC.out)) hsep (fun g hg=>.inl hg);rw[kR.out]at hcall;have HC:=kH hcall;clear hcall h8;go_wp2_with fail
  refine HC.out.mono ?_;rintro e10 bA ⟨rfl,-,yT,h10⟩;have HE:Hid (∃V',aV E G Q.1 V' bA/\bL bA E.base p Q.2 ms/\KX E (fun g=>g=E.vi\/ms.head? =some g) w bA):=kH h10.end_;clear h10 HC q8 n8;go_wp2_with fail
  go_end0
  exact⟨rfl,HE.out⟩
theorem SE(E:RC)(G:bf)(B:Nat)(hB:B<=E.base)(x:ByteArray)(a e:Int)(kids:List ae)(hih:∀k∈kids,gz E G B k):gz E G B (.node 4 x a e kids):=by
 intro i s p ms r V w A c h hs hsep hk hcap hbase hv hrb;obtain⟨nk,hnk⟩:∃q,kids.length=q:=⟨_,rfl⟩
 have hvk:lU s.isEmpty kids=true:=by
  rw[qb,if_neg (by decide),if_neg (by decide),if_neg (by decide)]at hv;exact hv
 have hq:aJ G i (ae.node 4 x a e kids) s r=ah G i kids 0 kids.length s (aU (aC r i (aj (ak s))) 1 r.next (ae.node 4 x a e kids) (decide ((aT G.fields x).getD 0≠(r.next:Int)))):=by
  rw[dh,if_neg (by decide),if_pos rfl]
 rw[hq];obtain⟨Q,hQ⟩:∃Q,ah G i kids 0 kids.length s (aU (aC r i (aj (ak s))) 1 r.next (ae.node 4 x a e kids) (decide ((aT G.fields x).getD 0≠(r.next:Int))))=Q:=⟨_,rfl⟩
 rw[hQ];have HQ:=kH hQ;clear hq hQ;rw[show bD (ae.node 4 x a e kids) A c= .agg #[.int .i64 4,.string x,.int .i64 a,.int .i64 e,.slice A nk c] by rw[<- hnk];rfl];obtain⟨nx,bF,hnb,xW,ry,hrw,hwn,hfx⟩:=CS h hrb hnk;have H:=kH h;have HS:=kH hs;have HK:Hid (aK w B A 0 kids):=kH hk;have dH:=kH hrb;have fQ:=kH hnk;have kZ:=kH hvk;have fD:=kH hih;have HCAP:Hid (nk<=c):=kH (by rw[<- hnk];exact hcap);have dC:=kH hbase;clear h hs hk hrb hnk hvk hih hv hcap hbase;go_enter Tryz.func79,Tryz.ntmps79
 go_upto_if 32 with fail
 generalize hW3:World.alloc (World.alloc (World.setCell w _ _) _) _=W3
 obtain⟨HR3,gM,iQ,jH,iM,c5,p0,qy,rf⟩:=CR H HS hW3;clear hW3 ry hfx;go_cut [] (fun wx=> ∃Vx,Hid (aV E G (aC r i (aj (ak s))) Vx wx)/\Hid (KX E (fun g=>g=E.vi) W3 wx))
 case first=>
  cases i with
  | false=>
   go_wp2_with fail
   go_meet
   exact⟨V,by have:=HR3.out;rw[<- bF.out]at this;exact kH this,kH (KX.refl _ _ _)⟩
  | true=>
   obtain⟨iO,dU,hs0⟩:=CQ HR3 iM iQ dH bF hnb;go_wp2_with fail
   go_region_held3 (fun w'=>w'.cell? ⟨E.rp,5,none⟩=some (.map (some E.vi))/\w'.cell? ⟨w.heap.size,0,none⟩=some (.pointer (some ⟨E.rp,0,none⟩))) (exact dU.out _ (by assumption)) ((go_at_call 145;refine iO.out.mono ?_;rintro e5 w5 ⟨v5,rfl,jR,hb5⟩;obtain⟨hs5,w6,hrun,lF,hs7⟩:=CP HR3 hb5 hs0 v5))
   have HX:=kH (CO HR3 gM dH bF dC hb5 jR lF);clear hs5 hs7 lF hb5 jR hs0 hrun;go_wp2_with fail
   go_meet
   exact HX.out
 case rest=>
  obtain⟨Vx,gW,mH⟩:=hcut;obtain⟨HV,HD,qF,HU,rY⟩:=CL hB hsep gW mH HR3 gM iQ jH iM HK dH bF dC hnb;obtain⟨gi,gb,uO,zx,hlk⟩:=CK gW x;obtain⟨⟨q0,lp⟩,⟨n0,n1,n2,n3,n4,ln⟩,⟨c0,c1,c2,c8,lr⟩⟩:=HV.out.cells;clear c5 p0 qy rf c8;obtain⟨fi,hfi⟩:∃q,(bG G.fields x).getD 0=q:=⟨_,rfl⟩
  have jr:ah G i kids 0 nk s (aU (aC r i (aj (ak s))) 1 nx (ae.node 4 x a e kids) (fi !=(nx:Int)))=Q:=by
   rw[<- HQ.out,fQ.out,<- bF.out,RJ,<- hfi]
  have kR:=kH jr;have pW:Hid (rC r (aU (aC r i (aj (ak s))) 1 nx (ae.node 4 x a e kids) (fi !=(nx:Int)))):=kH (by have:=dM.declare r i (aj (ak s)) 1 (ae.node 4 x a e kids) (fi !=(nx:Int));rw[bF.out]at this;exact this);have fC:Hid ((aU (aC r i (aj (ak s))) 1 nx (ae.node 4 x a e kids) (fi !=(nx:Int))).next=r.next+1):=kH (by have:=rV r i (aj (ak s)) 1 (ae.node 4 x a e kids) (fi !=(nx:Int));rw[bF.out]at this⊢;exact this)
  have kF:∀r' V' w',VW E G B ⟨kids,4,x,a,e,A,nk,c,w.heap.size+1,w.heap.size⟩ w (fun g=>g=E.vi\/ms.head? =some g) r' V' s p ms w'->(w'.cell? ⟨w.heap.size,0,none⟩=some (.pointer (some ⟨E.rp,0,none⟩))/\w'.cell? ⟨w.heap.size+1,0,none⟩=some (.int .i64 4)/\w'.cell? ⟨w.heap.size+1,1,none⟩=some (.string x)/\w'.cell? ⟨w.heap.size+1,2,none⟩=some (.int .i64 a)/\w'.cell? ⟨w.heap.size+1,3,none⟩=some (.int .i64 e)/\w'.cell? ⟨w.heap.size+1,4,none⟩=some (.slice A nk c)/\w'.cell? ⟨E.rp,1,none⟩=some (.map (some E.f))/\(Instr.lookup 70 (.map (some E.f)) (.string x) false).run Tryz.prog w'= .ok (.int .i64 fi) w'):=fun r' V' w' hv=>by
   obtain⟨⟨y0,-⟩,⟨z0,z1,z2,z3,z4,-⟩,⟨-,d1,-,-,-⟩⟩:=hv.cells;exact⟨y0,z0,z1,z2,z3,z4,d1,by have:=Lb w' E.f G.fields hv.R.fl x;rw[hfi]at this;exact this⟩
  have dU:=kH kF;have hdec:=fun q al=>((HV.out.drewN q).drew).RG (ae.node 4 x a e kids) ⟨rfl,rfl,rfl,rfl,rfl⟩ fQ.out HD.out qF.out 1 nx HU.out al
  have NM:=fun q=>(HV.out.drewN q).drew
  have R8:=kH NM;have GD:=kH hdec;have hlf:=fun q=>Lb (wc.drewN q) E.f G.fields (aY.drewN gW.out.fl q) x
  rw[hfi]at hlf;clear kF hdec NM jr hfi;go_wp2_with fail
  go_quiet (fail)
  go_wp2_with fail
  go_region_held3 (fun w'=>(w'.cell? ⟨w.heap.size,0,none⟩=some (.pointer (some ⟨E.rp,0,none⟩))/\w'.cell? ⟨w.heap.size+1,0,none⟩=some (.int .i64 4)/\w'.cell? ⟨w.heap.size+1,1,none⟩=some (.string x)/\w'.cell? ⟨w.heap.size+1,2,none⟩=some (.int .i64 a)/\w'.cell? ⟨w.heap.size+1,3,none⟩=some (.int .i64 e)/\w'.cell? ⟨w.heap.size+1,4,none⟩=some (.slice A nk c)/\w'.cell? ⟨E.rp,1,none⟩=some (.map (some E.f))/\(Instr.lookup 70 (.map (some E.f)) (.string x) false).run Tryz.prog w'= .ok (.int .i64 fi) w')) (first|exact dU.out _ _ _ (R8.out _)|exact dU.out _ _ _ (by assumption)) ((go_at_call 147;refine(GD.out _ _).mono ?_;rintro e8 w8 ⟨rfl,V8,h8⟩))
  obtain⟨⟨q8,Ap⟩,⟨-,-,-,-,n8,Ij⟩,-⟩:=h8.cells;have hcall:=h8.kids fD.out i 0 nk nk (by omega) fQ.out (by show 0+nk<=nk;omega) HCAP.out kZ.out (dH.out.kids (t:=(ae.node 4 x a e kids)) pW.out (Nat.add_le_add_left pW.out.next _) (rY.out _ fC.out)) hsep (fun g hg=>.inl hg);rw[kR.out]at hcall;have HC:=kH hcall;clear hcall h8;go_wp2_with fail
  refine HC.out.mono ?_;rintro e10 bA ⟨rfl,-,yT,h10⟩;have HE:Hid (∃V',aV E G Q.1 V' bA/\bL bA E.base p Q.2 ms/\KX E (fun g=>g=E.vi\/ms.head? =some g) w bA):=kH h10.end_;clear h10 HC q8 n8;go_wp2_with fail
  go_end0
  exact⟨rfl,HE.out⟩
theorem SB(E:RC)(G:bf)(B:Nat)(hB:B<=E.base)(x:ByteArray)(a e:Int)(kids:List ae)(hih:∀k∈kids,gz E G B k):gz E G B (.node 7 x a e kids):=by
 intro i s p ms r V w A c h hs hsep hk hcap hbase hv hrb;obtain⟨nk,hnk⟩:∃q,kids.length=q:=⟨_,rfl⟩
 have hvk:s.isEmpty=false/\lU s.isEmpty kids=true:=by
  rw[qb,if_neg (by decide),if_neg (by decide),if_pos (by decide)]at hv;simp only[abG,Bool.not_eq_true']at hv;exact⟨hv.1.1.1,hv.2⟩
 have hq:aJ G i (ae.node 7 x a e kids) s r=ah G i kids 0 kids.length (aD G (aC r i (aj (ak s))) 3 r.next (ae.node 7 x a e kids) s).2 (aD G (aC r i (aj (ak s))) 3 r.next (ae.node 7 x a e kids) s).1:=by
  rw[dh,if_neg (by decide),if_neg (by decide),if_neg (by decide),if_pos (by decide)]
 rw[hq];obtain⟨Q,hQ⟩:∃Q,ah G i kids 0 kids.length (aD G (aC r i (aj (ak s))) 3 r.next (ae.node 7 x a e kids) s).2 (aD G (aC r i (aj (ak s))) 3 r.next (ae.node 7 x a e kids) s).1=Q:=⟨_,rfl⟩
 rw[hQ];have HQ:=kH hQ;clear hq hQ;rw[show bD (ae.node 7 x a e kids) A c= .agg #[.int .i64 7,.string x,.int .i64 a,.int .i64 e,.slice A nk c] by rw[<- hnk];rfl];obtain⟨nx,bF,hnb,xW,ry,hrw,hwn,hfx⟩:=CS h hrb hnk;have H:=kH h;have HS:=kH hs;have HK:Hid (aK w B A 0 kids):=kH hk;have dH:=kH hrb;have fQ:=kH hnk;have kZ:=kH hvk;have fD:=kH hih;have HCAP:Hid (nk<=c):=kH (by rw[<- hnk];exact hcap);have dC:=kH hbase;clear h hs hk hrb hnk hvk hih hv hcap hbase;go_enter Tryz.func79,Tryz.ntmps79
 go_upto_if 32 with fail
 generalize hW3:World.alloc (World.alloc (World.setCell w _ _) _) _=W3
 obtain⟨HR3,gM,iQ,jH,iM,c5,p0,qy,rf⟩:=CR H HS hW3;clear hW3 ry hfx;go_cut [] (fun wx=> ∃Vx,Hid (aV E G (aC r i (aj (ak s))) Vx wx)/\Hid (KX E (fun g=>g=E.vi) W3 wx))
 case first=>
  cases i with
  | false=>
   go_wp2_with fail
   go_meet
   exact⟨V,by have:=HR3.out;rw[<- bF.out]at this;exact kH this,kH (KX.refl _ _ _)⟩
  | true=>
   obtain⟨iO,dU,hs0⟩:=CQ HR3 iM iQ dH bF hnb;go_wp2_with fail
   go_region_held3 (fun w'=>w'.cell? ⟨E.rp,5,none⟩=some (.map (some E.vi))/\w'.cell? ⟨w.heap.size,0,none⟩=some (.pointer (some ⟨E.rp,0,none⟩))) (exact dU.out _ (by assumption)) ((go_at_call 145;refine iO.out.mono ?_;rintro e5 w5 ⟨v5,rfl,jR,hb5⟩;obtain⟨hs5,w6,hrun,lF,hs7⟩:=CP HR3 hb5 hs0 v5))
   have HX:=kH (CO HR3 gM dH bF dC hb5 jR lF);clear hs5 hs7 lF hb5 jR hs0 hrun;go_wp2_with fail
   go_meet
   exact HX.out
 case rest=>
  obtain⟨Vx,gW,mH⟩:=hcut;obtain⟨HV,HD,qF,HU,rY⟩:=CL hB hsep gW mH HR3 gM iQ jH iM HK dH bF dC hnb;obtain⟨gi,gb,uO,zx,hlk⟩:=CK gW x;obtain⟨⟨q0,lp⟩,⟨n0,n1,n2,n3,n4,ln⟩,⟨c0,c1,c2,c8,lr⟩⟩:=HV.out.cells;clear c5 p0 qy rf c8
  obtain⟨l,s2,hs2⟩:∃l s2,s=l::s2:=by
   have:=kZ.out.1
   cases s with
   | nil=>cases this
   | cons l s2=>exact⟨l,s2,rfl⟩
  obtain⟨m,wL,wT⟩:∃m wL,ms=m::wL:=by
   have h1:=HV.out.S;rw[hs2]at h1;obtain⟨b,m,p',ms',h2,h3,-⟩:=h1;exact⟨m,ms',h3⟩
  have jr:ah G i kids 0 nk (aD G (aC r i (aj (ak s))) 3 nx (ae.node 7 x a e kids) s).2 (aD G (aC r i (aj (ak s))) 3 nx (ae.node 7 x a e kids) s).1=Q:=by
   rw[<- HQ.out,fQ.out,<- bF.out]
  have kR:=kH jr;have pW:Hid (rC r (aD G (aC r i (aj (ak s))) 3 nx (ae.node 7 x a e kids) s).1):=kH (by have:=dM.nL G r i (aj (ak s)) 3 (ae.node 7 x a e kids) s;rw[bF.out]at this;exact this);have fC:Hid ((aD G (aC r i (aj (ak s))) 3 nx (ae.node 7 x a e kids) s).1.next=r.next+1):=kH (by have:=oW G r i (aj (ak s)) 3 (ae.node 7 x a e kids) s;rw[bF.out]at this⊢;exact this);have hvar:=fun q=>(HV.out.drewN q).nL (ae.node 7 x a e kids) ⟨rfl,rfl,rfl,rfl,rfl⟩ fQ.out HD.out qF.out 3 nx HU.out l s2 m wL (by have:=(HV.out.drewN q).S;rw[hs2,wT]at this;exact this) (by rw[<- wT];exact hsep) (.inl (.inr (by rw[wT];rfl)))
  rw[<- hs2,<- wT]at hvar;have Ki:=kH hvar;clear hvar jr hs2 wT;go_wp2_with fail
  go_quiet (fail)
  go_wp2_with fail
  refine(Ki.out _).mono ?_;rintro e8 w8 ⟨rfl,-,V8,h8⟩;obtain⟨⟨q8,Ap⟩,⟨-,-,-,-,n8,Ij⟩,-⟩:=h8.cells;have hcall:=h8.kids fD.out i 0 nk nk (by omega) fQ.out (by show 0+nk<=nk;omega) HCAP.out (by rw[Cm (y5 G _ 3 nx (ae.node 7 x a e kids) s)];exact kZ.out.2) (dH.out.kids (t:=(ae.node 7 x a e kids)) pW.out (by have h1:=J6 G (aC r i (aj (ak s))) 3 nx (ae.node 7 x a e kids) s;rw[fC.out];omega) (rY.out _ fC.out)) hsep (fun g hg=>.inl hg);rw[kR.out]at hcall;have HC:=kH hcall;clear hcall h8;go_wp2_with fail
  refine HC.out.mono ?_;rintro e10 bA ⟨rfl,-,yT,h10⟩;have HE:Hid (∃V',aV E G Q.1 V' bA/\bL bA E.base p Q.2 ms/\KX E (fun g=>g=E.vi\/ms.head? =some g) w bA):=kH h10.end_;clear h10 HC q8 n8;go_wp2_with fail
  go_end0
  exact⟨rfl,HE.out⟩
theorem MJ(E:RC)(G:bf)(B:Nat)(hB:B<=E.base)(x:ByteArray)(a e:Int)(kids:List ae)(hih:∀k∈kids,gz E G B k):gz E G B (.node 8 x a e kids):=by
 intro i s p ms r V w A c h hs hsep hk hcap hbase hv hrb;obtain⟨nk,hnk⟩:∃q,kids.length=q:=⟨_,rfl⟩
 have hvk:s.isEmpty=false/\lU s.isEmpty kids=true:=by
  rw[qb,if_neg (by decide),if_neg (by decide),if_pos (by decide)]at hv;simp only[abG,Bool.not_eq_true']at hv;exact⟨hv.1.1.1,hv.2⟩
 have hq:aJ G i (ae.node 8 x a e kids) s r=ah G i kids 0 kids.length (aD G (aC r i (aj (ak s))) 3 r.next (ae.node 8 x a e kids) s).2 (aD G (aC r i (aj (ak s))) 3 r.next (ae.node 8 x a e kids) s).1:=by
  rw[dh,if_neg (by decide),if_neg (by decide),if_neg (by decide),if_pos (by decide)]
 rw[hq];obtain⟨Q,hQ⟩:∃Q,ah G i kids 0 kids.length (aD G (aC r i (aj (ak s))) 3 r.next (ae.node 8 x a e kids) s).2 (aD G (aC r i (aj (ak s))) 3 r.next (ae.node 8 x a e kids) s).1=Q:=⟨_,rfl⟩
 rw[hQ];have HQ:=kH hQ;clear hq hQ;rw[show bD (ae.node 8 x a e kids) A c= .agg #[.int .i64 8,.string x,.int .i64 a,.int .i64 e,.slice A nk c] by rw[<- hnk];rfl];obtain⟨nx,bF,hnb,xW,ry,hrw,hwn,hfx⟩:=CS h hrb hnk;have H:=kH h;have HS:=kH hs;have HK:Hid (aK w B A 0 kids):=kH hk;have dH:=kH hrb;have fQ:=kH hnk;have kZ:=kH hvk;have fD:=kH hih;have HCAP:Hid (nk<=c):=kH (by rw[<- hnk];exact hcap);have dC:=kH hbase;clear h hs hk hrb hnk hvk hih hv hcap hbase;go_enter Tryz.func79,Tryz.ntmps79
 go_upto_if 32 with fail
 generalize hW3:World.alloc (World.alloc (World.setCell w _ _) _) _=W3
 obtain⟨HR3,gM,iQ,jH,iM,c5,p0,qy,rf⟩:=CR H HS hW3;clear hW3 ry hfx;go_cut [] (fun wx=> ∃Vx,Hid (aV E G (aC r i (aj (ak s))) Vx wx)/\Hid (KX E (fun g=>g=E.vi) W3 wx))
 case first=>
  cases i with
  | false=>
   go_wp2_with fail
   go_meet
   exact⟨V,by have:=HR3.out;rw[<- bF.out]at this;exact kH this,kH (KX.refl _ _ _)⟩
  | true=>
   obtain⟨iO,dU,hs0⟩:=CQ HR3 iM iQ dH bF hnb;go_wp2_with fail
   go_region_held3 (fun w'=>w'.cell? ⟨E.rp,5,none⟩=some (.map (some E.vi))/\w'.cell? ⟨w.heap.size,0,none⟩=some (.pointer (some ⟨E.rp,0,none⟩))) (exact dU.out _ (by assumption)) ((go_at_call 145;refine iO.out.mono ?_;rintro e5 w5 ⟨v5,rfl,jR,hb5⟩;obtain⟨hs5,w6,hrun,lF,hs7⟩:=CP HR3 hb5 hs0 v5))
   have HX:=kH (CO HR3 gM dH bF dC hb5 jR lF);clear hs5 hs7 lF hb5 jR hs0 hrun;go_wp2_with fail
   go_meet
   exact HX.out
 case rest=>
  obtain⟨Vx,gW,mH⟩:=hcut;obtain⟨HV,HD,qF,HU,rY⟩:=CL hB hsep gW mH HR3 gM iQ jH iM HK dH bF dC hnb;obtain⟨gi,gb,uO,zx,hlk⟩:=CK gW x;obtain⟨⟨q0,lp⟩,⟨n0,n1,n2,n3,n4,ln⟩,⟨c0,c1,c2,c8,lr⟩⟩:=HV.out.cells;clear c5 p0 qy rf c8
  obtain⟨l,s2,hs2⟩:∃l s2,s=l::s2:=by
   have:=kZ.out.1
   cases s with
   | nil=>cases this
   | cons l s2=>exact⟨l,s2,rfl⟩
  obtain⟨m,wL,wT⟩:∃m wL,ms=m::wL:=by
   have h1:=HV.out.S;rw[hs2]at h1;obtain⟨b,m,p',ms',h2,h3,-⟩:=h1;exact⟨m,ms',h3⟩
  have jr:ah G i kids 0 nk (aD G (aC r i (aj (ak s))) 3 nx (ae.node 8 x a e kids) s).2 (aD G (aC r i (aj (ak s))) 3 nx (ae.node 8 x a e kids) s).1=Q:=by
   rw[<- HQ.out,fQ.out,<- bF.out]
  have kR:=kH jr;have pW:Hid (rC r (aD G (aC r i (aj (ak s))) 3 nx (ae.node 8 x a e kids) s).1):=kH (by have:=dM.nL G r i (aj (ak s)) 3 (ae.node 8 x a e kids) s;rw[bF.out]at this;exact this);have fC:Hid ((aD G (aC r i (aj (ak s))) 3 nx (ae.node 8 x a e kids) s).1.next=r.next+1):=kH (by have:=oW G r i (aj (ak s)) 3 (ae.node 8 x a e kids) s;rw[bF.out]at this⊢;exact this);have hvar:=fun q=>(HV.out.drewN q).nL (ae.node 8 x a e kids) ⟨rfl,rfl,rfl,rfl,rfl⟩ fQ.out HD.out qF.out 3 nx HU.out l s2 m wL (by have:=(HV.out.drewN q).S;rw[hs2,wT]at this;exact this) (by rw[<- wT];exact hsep) (.inl (.inr (by rw[wT];rfl)))
  rw[<- hs2,<- wT]at hvar;have Ki:=kH hvar;clear hvar jr hs2 wT;go_wp2_with fail
  go_quiet (fail)
  go_wp2_with fail
  refine(Ki.out _).mono ?_;rintro e8 w8 ⟨rfl,-,V8,h8⟩;obtain⟨⟨q8,Ap⟩,⟨-,-,-,-,n8,Ij⟩,-⟩:=h8.cells;have hcall:=h8.kids fD.out i 0 nk nk (by omega) fQ.out (by show 0+nk<=nk;omega) HCAP.out (by rw[Cm (y5 G _ 3 nx (ae.node 8 x a e kids) s)];exact kZ.out.2) (dH.out.kids (t:=(ae.node 8 x a e kids)) pW.out (by have h1:=J6 G (aC r i (aj (ak s))) 3 nx (ae.node 8 x a e kids) s;rw[fC.out];omega) (rY.out _ fC.out)) hsep (fun g hg=>.inl hg);rw[kR.out]at hcall;have HC:=kH hcall;clear hcall h8;go_wp2_with fail
  refine HC.out.mono ?_;rintro e10 bA ⟨rfl,-,yT,h10⟩;have HE:Hid (∃V',aV E G Q.1 V' bA/\bL bA E.base p Q.2 ms/\KX E (fun g=>g=E.vi\/ms.head? =some g) w bA):=kH h10.end_;clear h10 HC q8 n8;go_wp2_with fail
  go_end0
  exact⟨rfl,HE.out⟩
theorem SF(E:RC)(G:bf)(B:Nat)(hB:B<=E.base)(x:ByteArray)(a e:Int)(kids:List ae)(hih:∀k∈kids,gz E G B k):gz E G B (.node 11 x a e kids):=by
 intro i s p ms r V w A c h hs hsep hk hcap hbase hv hrb;obtain⟨nk,hnk⟩:∃q,kids.length=q:=⟨_,rfl⟩
 have hvk:lU false kids=true:=by
  rw[qb,if_neg (by decide),if_pos rfl]at hv;exact hv
 have hq:aJ G i (ae.node 11 x a e kids) s r=((ah G i kids 0 kids.length ([]::s) (aC r i (aj (ak s)))).1,(ah G i kids 0 kids.length ([]::s) (aC r i (aj (ak s)))).2.tail):=by
  rw[dh,if_neg (by decide),if_neg (by decide),if_neg (by decide),if_neg (by decide),if_pos rfl]
 rw[hq];obtain⟨Q,hQ⟩:∃Q,((ah G i kids 0 kids.length ([]::s) (aC r i (aj (ak s)))).1,(ah G i kids 0 kids.length ([]::s) (aC r i (aj (ak s)))).2.tail)=Q:=⟨_,rfl⟩
 rw[hQ];have HQ:=kH hQ;clear hq hQ;rw[show bD (ae.node 11 x a e kids) A c= .agg #[.int .i64 11,.string x,.int .i64 a,.int .i64 e,.slice A nk c] by rw[<- hnk];rfl];obtain⟨nx,bF,hnb,xW,ry,hrw,hwn,hfx⟩:=CS h hrb hnk;have H:=kH h;have HS:=kH hs;have HK:Hid (aK w B A 0 kids):=kH hk;have dH:=kH hrb;have fQ:=kH hnk;have kZ:=kH hvk;have fD:=kH hih;have HCAP:Hid (nk<=c):=kH (by rw[<- hnk];exact hcap);have dC:=kH hbase;clear h hs hk hrb hnk hvk hih hv hcap hbase;go_enter Tryz.func79,Tryz.ntmps79
 go_upto_if 32 with fail
 generalize hW3:World.alloc (World.alloc (World.setCell w _ _) _) _=W3
 obtain⟨HR3,gM,iQ,jH,iM,c5,p0,qy,rf⟩:=CR H HS hW3;clear hW3 ry hfx;go_cut [] (fun wx=> ∃Vx,Hid (aV E G (aC r i (aj (ak s))) Vx wx)/\Hid (KX E (fun g=>g=E.vi) W3 wx))
 case first=>
  cases i with
  | false=>
   go_wp2_with fail
   go_meet
   exact⟨V,by have:=HR3.out;rw[<- bF.out]at this;exact kH this,kH (KX.refl _ _ _)⟩
  | true=>
   obtain⟨iO,dU,hs0⟩:=CQ HR3 iM iQ dH bF hnb;go_wp2_with fail
   go_region_held3 (fun w'=>w'.cell? ⟨E.rp,5,none⟩=some (.map (some E.vi))/\w'.cell? ⟨w.heap.size,0,none⟩=some (.pointer (some ⟨E.rp,0,none⟩))) (exact dU.out _ (by assumption)) ((go_at_call 145;refine iO.out.mono ?_;rintro e5 w5 ⟨v5,rfl,jR,hb5⟩;obtain⟨hs5,w6,hrun,lF,hs7⟩:=CP HR3 hb5 hs0 v5))
   have HX:=kH (CO HR3 gM dH bF dC hb5 jR lF);clear hs5 hs7 lF hb5 jR hs0 hrun;go_wp2_with fail
   go_meet
   exact HX.out
 case rest=>
  obtain⟨Vx,gW,mH⟩:=hcut;obtain⟨HV,HD,qF,HU,rY⟩:=CL hB hsep gW mH HR3 gM iQ jH iM HK dH bF dC hnb;obtain⟨gi,gb,uO,zx,hlk⟩:=CK gW x;obtain⟨⟨q0,lp⟩,⟨n0,n1,n2,n3,n4,ln⟩,⟨c0,c1,c2,c8,lr⟩⟩:=HV.out.cells;clear c5 p0 qy rf c8;obtain⟨Q1,hQ1⟩:∃Q1,ah G i kids 0 nk ([]::s) (aC r i (aj (ak s)))=Q1:=⟨_,rfl⟩
  have jr:(Q1.1,Q1.2.tail)=Q:=by rw[<- HQ.out,<- hQ1,fQ.out]
  have iC:=kH hQ1;have kR:=kH jr;have hin:=fun q=>(HV.out.drewN q).FK (HV.out.drewN q).S hsep
  have rH:=kH hin;clear hin hQ1 jr;go_wp2_with fail
  go_quiet (fail)
  go_wp2_with fail
  refine(rH.out _).mono ?_;rintro e8 w8 ⟨b,m,rfl,hm,hb,ik,jQ,wQ,hbel,h8⟩;have hm1:w.heap.size<=m:=abF HV.out.K.size hm;have h9:=h8.other jQ;obtain⟨⟨q8,Ap⟩,⟨-,-,-,-,n8,Ij⟩,-⟩:=h9.cells
  have hcall:=h9.kids fD.out i 0 nk nk (by omega) fQ.out (by show 0+nk<=nk;omega) HCAP.out kZ.out (dH.out.kids (t:=(ae.node 11 x a e kids)) (dM.none_ r i _) (by rw[qD];show 0+(ak s).length+r.next<=(ak s).length+(r.next+1);omega) (rY.out _ rfl)) wQ (fun g hg=>by
   rcases hg with hg|hg
   ·exact .inl (.inl hg)
   ·exact .inr (by simp at hg;omega))
  rw[iC.out]at hcall;have HC:=kH hcall;have HB:=kH hb;have H9:=kH h9;clear hcall h8 h9 hb jQ wQ hbel ik hm;go_wp2_with fail
  refine HC.out.mono ?_;rintro e10 bA ⟨rfl,k10,yT,h10⟩
  have HE:Hid (∃V',aV E G Q.1 V' bA/\bL bA E.base p Q.2 ms/\KX E (fun g=>g=E.vi\/ms.head? =some g) w bA):=kH (by
   rw[<- kR.out]
   exact(h10.other (bL.tail h10.S (H9.out.xP k10 HB.out))).end_)
  clear h10 HC q8 n8 k10;go_wp2_with fail
  go_end0
  exact⟨rfl,HE.out⟩
section
variable {E:RC}{G:bf}{B:Nat}{N:NB}{w0 w w1 w':World}{M M2:Nat->Prop}{r r':RS}{V V':RV}{s:aQ}{p:Option Addr}{ms:List Nat}
theorem VW.outer(h:VW E G B N w0 M r V s p ms w)(hsep:Dm E ms)(hb:Below w.heap.size w w1)(hk:KX E M2 w1 w')(hr:aV E G r' V' w')(hM2:∀g,M2 g->g=E.vi\/w.heap.size<=g)(Lm:M E.vi):VW E G B N w0 M r' V' s p ms w':=by
 have hk1:KX E M2 w w':=(KX.of_below (M:=M2) hb).trans hk (fun g hg=>.inl hg);refine h.OZ hk1 hr (fun m hm hg=>?_) (fun g hg=>?_)
 ·rcases hM2 m hg with e|e
  ·exact(hsep.apart m hm).2.2.2 e
  ·have:=bL.lt h.S m hm
   omega
 ·rcases hM2 g hg with rfl|e
  ·exact .inl Lm
  ·exact .inr (abF h.K.size e)
theorem VW.store{l l2:kP}{m:Nat}(h:VW E G B N w0 M r V (l::s) p (m::ms) w)(hsep:Dm E (m::ms))(hs:aF (fun g=>g=m) w w')(hm:aY jg w' m (jC l2))(hM:M m\/w0.heap.size<=m):VW E G B N w0 M r V (l2::s) p (m::ms) w':=by
 obtain⟨b,m',p2,ms',rfl,h2,h3,h4,h5,h6,h7⟩:=h.S;simp only[List.cons.injEq]at h2;obtain⟨rfl,rfl⟩:=h2;have QZ:=h6.isMap;have Wn:=hsep.apart m (by simp);have hnd:=List.nodup_cons.1 hsep.nodup;have km:KX E (fun g=>g=m) w w':=KX.oo hs rfl h4 QZ;refine h.step km (h.R.oo hs Wn QZ) ⟨b,m,p2,ms,rfl,rfl,h3,h4,?_,hm,?_⟩ (fun g hg=>by rw[hg];exact hM)
 ·refine h5.since hs (fun e=>?_)
  obtain⟨es,ck,ho⟩:=QZ;subst e;have:w.heap[b]? =some (Obj.cells _ _ (0,0)):=h5;rw[ho]at this;cases this
 ·exact bL.kx km h.R.om h7 (fun g hg e=>hnd.1 (by rw[<- e];exact hg))
theorem Ty(G:bf)(r:RS)(c:Int)(n:Nat)(t:ae)(s:aQ):∃l,(aD G r c n t ([]::s)).2=l::s/\l.length<=1:=by
 unfold aD;split
 ·exact⟨[],rfl,Nat.zero_le _⟩
 ·exact⟨[(t.text,(n:Int))],rfl,abE _⟩
end
theorem mE{a b:ByteArray}(h:a.data.toList=b.data.toList):a=b:=by
 obtain⟨a⟩:=a;obtain⟨b⟩:=b;have:a=b:=Array.toList_inj.1 h;rw[this]
theorem gm{P:Program}{ops:Array Oper}{Q:Exit->Act->World->Prop}{S:World->Prop}{ex:List Nat}{k:Nat}{ss:List Bool}{o:Oper}{rest:List Oper}{a:Act}{w:World}{f:FuncId}{args:Array Value}(hg:Region.wanted o (yielded ops a.tmps)=true)
 (hr:(execOp a.eval o).run P w= .ok (.enter f args) w) (h:Calls P f args w fun e w'=> ∃v,e= .returned v/\(ex.contains k=false->S w')/\tF P ops Q S ex (k+1) ss rest (a.put o.dst v) w'):tF P ops Q S ex k (false::ss) (o::rest) a w:=
 ⟨hg,by unfold Oper.wp;rw[hr];exact h.mono (fun e w' ⟨v,he,h1,h2⟩=>by subst he;exact⟨h1,h2⟩)⟩
end Go.Proofs.YtoepemlnlpamlaaGreat
