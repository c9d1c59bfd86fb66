/- The law NamesBack holds for every text and every number: it returns true, and its arguments read as before. No condition. Part 28: VisA2 VisA3 VisB0 VisB1 VisB2 VisB3 VisX VisC0. -/
import Derived.Test.YtoepemlnlpamlaaGreatBakk14
import Derived.Test.YtoepemlnlpamlaaGreatBakk27
set_option maxRecDepth 100000
set_option maxHeartbeats 4000000
namespace Go.Proofs.YtoepemlnlpamlaaGreat
open Go.RowKit
theorem TT(E:RC)(G:aW)(B:Nat)(hB:B<=E.base)(x:ByteArray)(a e:Int)(kids:List aa)(hih:∀k∈kids,fI E G B k):fI E G B (.node 27 x a e kids):=by
 intro i s p ms r V w A c h hs hsep hk hcap hbase hv hrb;obtain⟨nk,hnk⟩:∃q,kids.length=q:=⟨_,rfl⟩
 have hvk:lT s.isEmpty kids=true:=by
  rw[pY,if_neg (by decide),if_neg (by decide),if_neg (by decide)]at hv;exact hv
 have hq:aF G i (aa.node 27 x a e kids) s r=ae G i kids 0 kids.length s (gH G s r (aC r i (aj (ak s))) (aa.node 27 x a e kids)):=by
  rw[bY];repeat (rw[if_neg (by decide)])
 rw[hq];obtain⟨Q,hQ⟩:∃Q,ae G i kids 0 kids.length s (gH G s r (aC r i (aj (ak s))) (aa.node 27 x a e kids))=Q:=⟨_,rfl⟩
 rw[hQ];have HQ:=kH hQ;clear hq hQ;rw[show aX (aa.node 27 x a e kids) A c= .agg #[.int .i64 27,.string x,.int .i64 a,.int .i64 e,.slice A nk c] by rw[<- hnk];rfl];obtain⟨nx,bD,hnb,yI,qV,hrw,hwn,hfx⟩:=BS h hrb hnk;have H:=kH h;have HS:=kH hs;have HK:Hid (aD w B A 0 kids):=kH hk;have dI:=kH hrb;have fQ:=kH hnk;have kX:=kH hvk;have eH:=kH hih;have HCAP:Hid (nk<=c):=kH (by rw[<- hnk];exact hcap);have dJ:=kH hbase;clear h hs hk hrb hnk hvk hih hv hcap hbase;go_enter Tryz.func79,Tryz.ntmps79
 go_upto_if 32 with fail
 generalize hW3:World.alloc (World.alloc (World.setCell w _ _) _) _=W3
 obtain⟨HR3,fZ,iF,mi,iA,c5,p0,qw,qQ⟩:=BQ H HS hW3;clear hW3 qV hfx;go_cut [] (fun wx=> ∃Vx,Hid (aS E G (aC r i (aj (ak s))) Vx wx)/\Hid (KX E (fun g=>g=E.vi) W3 wx))
 case first=>
  cases i with
  | false=>
   go_wp2_with fail
   go_meet
   exact⟨V,by have:=HR3.out;rw[<- bD.out]at this;exact kH this,kH (KX.refl _ _ _)⟩
  | true=>
   obtain⟨iB,eY,hs0⟩:=BP HR3 iA iF dI bD hnb;go_wp2_with fail
   go_region_held3 (fun w'=>w'.cell? ⟨E.rp,5,none⟩=some (.map (some E.vi))/\w'.cell? ⟨w.heap.size,0,none⟩=some (.pointer (some ⟨E.rp,0,none⟩))) (exact eY.out _ (by assumption)) ((go_at_call 145;refine iB.out.mono ?_;rintro e5 w5 ⟨v5,rfl,jR,hb5⟩;obtain⟨hs5,w6,hrun,lh,hs7⟩:=BO HR3 hb5 hs0 v5))
   have HX:=kH (BN HR3 fZ dI bD dJ hb5 jR lh);clear hs5 hs7 lh hb5 jR hs0 hrun;go_wp2_with fail
   go_meet
   exact HX.out
 case rest=>
  obtain⟨Vx,gF,mq⟩:=hcut;obtain⟨HV,HD,qE,HU,rE⟩:=BM hB hsep gF mq HR3 fZ iF mi iA HK dI bD dJ hnb;obtain⟨gi,gb,uF,yY,hlk⟩:=BJ gF x;obtain⟨⟨q0,lp⟩,⟨n0,n1,n2,n3,n4,ln⟩,⟨c0,c1,c2,c8,lr⟩⟩:=HV.out.cells;clear c5 p0 qw qQ c8;obtain⟨tq,qR⟩:∃tq,aN G.globals x=tq:=⟨_,rfl⟩
  have HTQ:=kH qR
  have jT:ae G i kids 0 nk s (fC (aC r i (aj (ak s))) nx (aa.node 27 x a e kids) tq)=Q:=by
   rw[<- HQ.out,fQ.out,<- qR,<- bD.out];rfl
  have oF:=kH jT;have pQ:Hid (qY r (fC (aC r i (aj (ak s))) nx (aa.node 27 x a e kids) tq)):=kH (by have:=dH.Cv r i (aj (ak s)) (aa.node 27 x a e kids) tq;rw[bD.out]at this;exact this);have jb:Hid ((fC (aC r i (aj (ak s))) nx (aa.node 27 x a e kids) tq).next=r.next+1):=kH (by cases tq<;>rfl);clear jT;have kg:=fun q=>(HV.out.drewN q).Oj (aa.node 27 x a e kids) ⟨rfl,rfl,rfl,rfl,rfl⟩ fQ.out qE.out nx HU.out tq (tq.getD 0) (fun k hk=>by rw[hk];rfl)
  have e1:tq.getD 0=gi:=by rw[<- uF.out,<- qR]
  have e2:tq.isSome=gb:=by rw[<- yY.out,<- qR]
  rw[e1,e2]at kg;have xg:=kH kg;clear kg qR e1 e2;go_wp2_with fail
  go_quiet (fail)
  go_wp2_with fail
  refine(xg.out _).mono ?_;rintro e8 w8 ⟨rfl,V8,h8⟩;obtain⟨⟨q8,zM⟩,⟨-,-,-,-,n8,GD⟩,-⟩:=h8.cells;have hcall:=h8.kids eH.out i 0 nk nk (by omega) fQ.out (by show 0+nk<=nk;omega) HCAP.out kX.out (dI.out.kids (t:=(aa.node 27 x a e kids)) pQ.out (Nat.add_le_add_left pQ.out.next _) (rE.out _ jb.out)) hsep (fun g hg=>.inl hg);rw[oF.out]at hcall;have HC:=kH hcall;clear hcall h8;go_wp2_with fail
  refine HC.out.mono ?_;rintro e10 bf ⟨rfl,-,yA,h10⟩;have HE:Hid (∃V',aS E G Q.1 V' bf/\bK bf E.base p Q.2 ms/\KX E (fun g=>g=E.vi\/ms.head? =some g) w bf):=kH h10.end_;clear h10 HC q8 n8;go_wp2_with fail
  go_end0
  exact⟨rfl,HE.out⟩
theorem Oh(E:RC)(G:aW)(B:Nat)(hB:B<=E.base)(x:ByteArray)(a e:Int)(kids:List aa)(hih:∀k∈kids,fI E G B k):fI E G B (.node 22 x a e kids):=by
 intro i s p ms r V w A c h hs hsep hk hcap hbase hv hrb;obtain⟨nk,hnk⟩:∃q,kids.length=q:=⟨_,rfl⟩
 have hvk:lT s.isEmpty kids=true:=by
  rw[pY,if_neg (by decide),if_neg (by decide),if_neg (by decide)]at hv;exact hv
 have hq:aF G i (aa.node 22 x a e kids) s r=ae G i kids 0 kids.length s (gH G s r (aC r i (aj (ak s))) (aa.node 22 x a e kids)):=by
  rw[bY];repeat (rw[if_neg (by decide)])
 rw[hq];obtain⟨Q,hQ⟩:∃Q,ae G i kids 0 kids.length s (gH G s r (aC r i (aj (ak s))) (aa.node 22 x a e kids))=Q:=⟨_,rfl⟩
 rw[hQ];have HQ:=kH hQ;clear hq hQ;rw[show aX (aa.node 22 x a e kids) A c= .agg #[.int .i64 22,.string x,.int .i64 a,.int .i64 e,.slice A nk c] by rw[<- hnk];rfl];obtain⟨nx,bD,hnb,yI,qV,hrw,hwn,hfx⟩:=BS h hrb hnk;have H:=kH h;have HS:=kH hs;have HK:Hid (aD w B A 0 kids):=kH hk;have dI:=kH hrb;have fQ:=kH hnk;have kX:=kH hvk;have eH:=kH hih;have HCAP:Hid (nk<=c):=kH (by rw[<- hnk];exact hcap);have dJ:=kH hbase;clear h hs hk hrb hnk hvk hih hv hcap hbase;go_enter Tryz.func79,Tryz.ntmps79
 go_upto_if 32 with fail
 generalize hW3:World.alloc (World.alloc (World.setCell w _ _) _) _=W3
 obtain⟨HR3,fZ,iF,mi,iA,c5,p0,qw,qQ⟩:=BQ H HS hW3;clear hW3 qV hfx;go_cut [] (fun wx=> ∃Vx,Hid (aS E G (aC r i (aj (ak s))) Vx wx)/\Hid (KX E (fun g=>g=E.vi) W3 wx))
 case first=>
  cases i with
  | false=>
   go_wp2_with fail
   go_meet
   exact⟨V,by have:=HR3.out;rw[<- bD.out]at this;exact kH this,kH (KX.refl _ _ _)⟩
  | true=>
   obtain⟨iB,eY,hs0⟩:=BP HR3 iA iF dI bD hnb;go_wp2_with fail
   go_region_held3 (fun w'=>w'.cell? ⟨E.rp,5,none⟩=some (.map (some E.vi))/\w'.cell? ⟨w.heap.size,0,none⟩=some (.pointer (some ⟨E.rp,0,none⟩))) (exact eY.out _ (by assumption)) ((go_at_call 145;refine iB.out.mono ?_;rintro e5 w5 ⟨v5,rfl,jR,hb5⟩;obtain⟨hs5,w6,hrun,lh,hs7⟩:=BO HR3 hb5 hs0 v5))
   have HX:=kH (BN HR3 fZ dI bD dJ hb5 jR lh);clear hs5 hs7 lh hb5 jR hs0 hrun;go_wp2_with fail
   go_meet
   exact HX.out
 case rest=>
  obtain⟨Vx,gF,mq⟩:=hcut;obtain⟨HV,HD,qE,HU,rE⟩:=BM hB hsep gF mq HR3 fZ iF mi iA HK dI bD dJ hnb;obtain⟨gi,gb,uF,yY,hlk⟩:=BJ gF x;obtain⟨⟨q0,lp⟩,⟨n0,n1,n2,n3,n4,ln⟩,⟨c0,c1,c2,c8,lr⟩⟩:=HV.out.cells;clear c5 p0 qw qQ c8;obtain⟨tq,qR⟩:∃tq,aN G.fields x=tq:=⟨_,rfl⟩
  have HTQ:=kH qR
  have jT:ae G i kids 0 nk s (fC (aC r i (aj (ak s))) nx (aa.node 22 x a e kids) tq)=Q:=by
   rw[<- HQ.out,fQ.out,<- qR,<- bD.out];rfl
  have oF:=kH jT;have pQ:Hid (qY r (fC (aC r i (aj (ak s))) nx (aa.node 22 x a e kids) tq)):=kH (by have:=dH.Cv r i (aj (ak s)) (aa.node 22 x a e kids) tq;rw[bD.out]at this;exact this);have jb:Hid ((fC (aC r i (aj (ak s))) nx (aa.node 22 x a e kids) tq).next=r.next+1):=kH (by cases tq<;>rfl);clear jT;have kg:=fun q=>(HV.out.drewN q).Oj (aa.node 22 x a e kids) ⟨rfl,rfl,rfl,rfl,rfl⟩ fQ.out qE.out nx HU.out tq (tq.getD 0) (fun k hk=>by rw[hk];rfl)
  have hlf:=fun q q'=>pg ((wc.drewN q).drewN q') E.f G.fields (aZ.drewN (aZ.drewN gF.out.fl q) q') x
  have hlg:=fun q=>pg (wc.drewN q) E.f G.fields (aZ.drewN gF.out.fl q) x
  rw[show bJ G.fields x=tq from qR]at hlf hlg;obtain⟨ti,hti⟩:∃q,tq.getD 0=q:=⟨_,rfl⟩
  obtain⟨tb,htb⟩:∃q,tq.isSome=q:=⟨_,rfl⟩
  rw[hti,htb]at hlf hlg kg;have xg:=kH kg;clear kg qR hti htb;go_wp2_with fail
  go_quiet (fail)
  go_wp2_with fail
  go_quiet (fail)
  go_wp2_with fail
  refine(xg.out _).mono ?_;rintro e8 w8 ⟨rfl,V8,h8⟩;obtain⟨⟨q8,zM⟩,⟨-,-,-,-,n8,GD⟩,-⟩:=h8.cells;have hcall:=h8.kids eH.out i 0 nk nk (by omega) fQ.out (by show 0+nk<=nk;omega) HCAP.out kX.out (dI.out.kids (t:=(aa.node 22 x a e kids)) pQ.out (Nat.add_le_add_left pQ.out.next _) (rE.out _ jb.out)) hsep (fun g hg=>.inl hg);rw[oF.out]at hcall;have HC:=kH hcall;clear hcall h8;go_wp2_with fail
  refine HC.out.mono ?_;rintro e10 bf ⟨rfl,-,yA,h10⟩;have HE:Hid (∃V',aS E G Q.1 V' bf/\bK bf E.base p Q.2 ms/\KX E (fun g=>g=E.vi\/ms.head? =some g) w bf):=kH h10.end_;clear h10 HC q8 n8;go_wp2_with fail
  go_end0
  exact⟨rfl,HE.out⟩
theorem Ru(E:RC)(G:aW)(B:Nat)(hB:B<=E.base)(x:ByteArray)(a e:Int)(kids:List aa)(hih:∀k∈kids,fI E G B k):fI E G B (.node 4 x a e kids):=by
 intro i s p ms r V w A c h hs hsep hk hcap hbase hv hrb;obtain⟨nk,hnk⟩:∃q,kids.length=q:=⟨_,rfl⟩
 have hvk:lT s.isEmpty kids=true:=by
  rw[pY,if_neg (by decide),if_neg (by decide),if_neg (by decide)]at hv;exact hv
 have hq:aF G i (aa.node 4 x a e kids) s r=ae G i kids 0 kids.length s (aQ (aC r i (aj (ak s))) 1 r.next (aa.node 4 x a e kids) (decide ((aN G.fields x).getD 0≠(r.next:Int)))):=by
  rw[bY,if_neg (by decide),if_pos rfl]
 rw[hq];obtain⟨Q,hQ⟩:∃Q,ae G i kids 0 kids.length s (aQ (aC r i (aj (ak s))) 1 r.next (aa.node 4 x a e kids) (decide ((aN G.fields x).getD 0≠(r.next:Int))))=Q:=⟨_,rfl⟩
 rw[hQ];have HQ:=kH hQ;clear hq hQ;rw[show aX (aa.node 4 x a e kids) A c= .agg #[.int .i64 4,.string x,.int .i64 a,.int .i64 e,.slice A nk c] by rw[<- hnk];rfl];obtain⟨nx,bD,hnb,yI,qV,hrw,hwn,hfx⟩:=BS h hrb hnk;have H:=kH h;have HS:=kH hs;have HK:Hid (aD w B A 0 kids):=kH hk;have dI:=kH hrb;have fQ:=kH hnk;have kX:=kH hvk;have eH:=kH hih;have HCAP:Hid (nk<=c):=kH (by rw[<- hnk];exact hcap);have dJ:=kH hbase;clear h hs hk hrb hnk hvk hih hv hcap hbase;go_enter Tryz.func79,Tryz.ntmps79
 go_upto_if 32 with fail
 generalize hW3:World.alloc (World.alloc (World.setCell w _ _) _) _=W3
 obtain⟨HR3,fZ,iF,mi,iA,c5,p0,qw,qQ⟩:=BQ H HS hW3;clear hW3 qV hfx;go_cut [] (fun wx=> ∃Vx,Hid (aS E G (aC r i (aj (ak s))) Vx wx)/\Hid (KX E (fun g=>g=E.vi) W3 wx))
 case first=>
  cases i with
  | false=>
   go_wp2_with fail
   go_meet
   exact⟨V,by have:=HR3.out;rw[<- bD.out]at this;exact kH this,kH (KX.refl _ _ _)⟩
  | true=>
   obtain⟨iB,eY,hs0⟩:=BP HR3 iA iF dI bD hnb;go_wp2_with fail
   go_region_held3 (fun w'=>w'.cell? ⟨E.rp,5,none⟩=some (.map (some E.vi))/\w'.cell? ⟨w.heap.size,0,none⟩=some (.pointer (some ⟨E.rp,0,none⟩))) (exact eY.out _ (by assumption)) ((go_at_call 145;refine iB.out.mono ?_;rintro e5 w5 ⟨v5,rfl,jR,hb5⟩;obtain⟨hs5,w6,hrun,lh,hs7⟩:=BO HR3 hb5 hs0 v5))
   have HX:=kH (BN HR3 fZ dI bD dJ hb5 jR lh);clear hs5 hs7 lh hb5 jR hs0 hrun;go_wp2_with fail
   go_meet
   exact HX.out
 case rest=>
  obtain⟨Vx,gF,mq⟩:=hcut;obtain⟨HV,HD,qE,HU,rE⟩:=BM hB hsep gF mq HR3 fZ iF mi iA HK dI bD dJ hnb;obtain⟨gi,gb,uF,yY,hlk⟩:=BJ gF x;obtain⟨⟨q0,lp⟩,⟨n0,n1,n2,n3,n4,ln⟩,⟨c0,c1,c2,c8,lr⟩⟩:=HV.out.cells;clear c5 p0 qw qQ c8;obtain⟨fi,hfi⟩:∃q,(bJ G.fields x).getD 0=q:=⟨_,rfl⟩
  have jT:ae G i kids 0 nk s (aQ (aC r i (aj (ak s))) 1 nx (aa.node 4 x a e kids) (fi !=(nx:Int)))=Q:=by
   rw[<- HQ.out,fQ.out,<- bD.out,QS,<- hfi]
  have oF:=kH jT;have pQ:Hid (qY r (aQ (aC r i (aj (ak s))) 1 nx (aa.node 4 x a e kids) (fi !=(nx:Int)))):=kH (by have:=dH.declare r i (aj (ak s)) 1 (aa.node 4 x a e kids) (fi !=(nx:Int));rw[bD.out]at this;exact this);have jb:Hid ((aQ (aC r i (aj (ak s))) 1 nx (aa.node 4 x a e kids) (fi !=(nx:Int))).next=r.next+1):=kH (by have:=rD r i (aj (ak s)) 1 (aa.node 4 x a e kids) (fi !=(nx:Int));rw[bD.out]at this⊢;exact this)
  have nH:∀r' V' w',VW E G B ⟨kids,4,x,a,e,A,nk,c,w.heap.size+1,w.heap.size⟩ w (fun g=>g=E.vi\/ms.head? =some g) r' V' s p ms w'->(w'.cell? ⟨w.heap.size,0,none⟩=some (.pointer (some ⟨E.rp,0,none⟩))/\w'.cell? ⟨w.heap.size+1,0,none⟩=some (.int .i64 4)/\w'.cell? ⟨w.heap.size+1,1,none⟩=some (.string x)/\w'.cell? ⟨w.heap.size+1,2,none⟩=some (.int .i64 a)/\w'.cell? ⟨w.heap.size+1,3,none⟩=some (.int .i64 e)/\w'.cell? ⟨w.heap.size+1,4,none⟩=some (.slice A nk c)/\w'.cell? ⟨E.rp,1,none⟩=some (.map (some E.f))/\(Instr.lookup 70 (.map (some E.f)) (.string x) false).run Tryz.prog w'= .ok (.int .i64 fi) w'):=fun r' V' w' hv=>by
   obtain⟨⟨y0,-⟩,⟨z0,z1,z2,z3,z4,-⟩,⟨-,d1,-,-,-⟩⟩:=hv.cells;exact⟨y0,z0,z1,z2,z3,z4,d1,by have:=J9 w' E.f G.fields hv.R.fl x;rw[hfi]at this;exact this⟩
  have eY:=kH nH;have hdec:=fun q al=>((HV.out.drewN q).drew).QN (aa.node 4 x a e kids) ⟨rfl,rfl,rfl,rfl,rfl⟩ fQ.out HD.out qE.out 1 nx HU.out al
  have MZ:=fun q=>(HV.out.drewN q).drew
  have Q3:=kH MZ;have Rl:=kH hdec;have hlf:=fun q=>J9 (wc.drewN q) E.f G.fields (aZ.drewN gF.out.fl q) x
  rw[hfi]at hlf;clear nH hdec MZ jT hfi;go_wp2_with fail
  go_quiet (fail)
  go_wp2_with fail
  go_region_held3 (fun w'=>(w'.cell? ⟨w.heap.size,0,none⟩=some (.pointer (some ⟨E.rp,0,none⟩))/\w'.cell? ⟨w.heap.size+1,0,none⟩=some (.int .i64 4)/\w'.cell? ⟨w.heap.size+1,1,none⟩=some (.string x)/\w'.cell? ⟨w.heap.size+1,2,none⟩=some (.int .i64 a)/\w'.cell? ⟨w.heap.size+1,3,none⟩=some (.int .i64 e)/\w'.cell? ⟨w.heap.size+1,4,none⟩=some (.slice A nk c)/\w'.cell? ⟨E.rp,1,none⟩=some (.map (some E.f))/\(Instr.lookup 70 (.map (some E.f)) (.string x) false).run Tryz.prog w'= .ok (.int .i64 fi) w')) (first|exact eY.out _ _ _ (Q3.out _)|exact eY.out _ _ _ (by assumption)) ((go_at_call 147;refine(Rl.out _ _).mono ?_;rintro e8 w8 ⟨rfl,V8,h8⟩))
  obtain⟨⟨q8,zM⟩,⟨-,-,-,-,n8,GD⟩,-⟩:=h8.cells;have hcall:=h8.kids eH.out i 0 nk nk (by omega) fQ.out (by show 0+nk<=nk;omega) HCAP.out kX.out (dI.out.kids (t:=(aa.node 4 x a e kids)) pQ.out (Nat.add_le_add_left pQ.out.next _) (rE.out _ jb.out)) hsep (fun g hg=>.inl hg);rw[oF.out]at hcall;have HC:=kH hcall;clear hcall h8;go_wp2_with fail
  refine HC.out.mono ?_;rintro e10 bf ⟨rfl,-,yA,h10⟩;have HE:Hid (∃V',aS E G Q.1 V' bf/\bK bf E.base p Q.2 ms/\KX E (fun g=>g=E.vi\/ms.head? =some g) w bf):=kH h10.end_;clear h10 HC q8 n8;go_wp2_with fail
  go_end0
  exact⟨rfl,HE.out⟩
theorem Rs(E:RC)(G:aW)(B:Nat)(hB:B<=E.base)(x:ByteArray)(a e:Int)(kids:List aa)(hih:∀k∈kids,fI E G B k):fI E G B (.node 7 x a e kids):=by
 intro i s p ms r V w A c h hs hsep hk hcap hbase hv hrb;obtain⟨nk,hnk⟩:∃q,kids.length=q:=⟨_,rfl⟩
 have hvk:s.isEmpty=false/\lT s.isEmpty kids=true:=by
  rw[pY,if_neg (by decide),if_neg (by decide),if_pos (by decide)]at hv;simp only[aaF,Bool.not_eq_true']at hv;exact⟨hv.1.1.1,hv.2⟩
 have hq:aF G i (aa.node 7 x a e kids) s r=ae G i kids 0 kids.length (aA G (aC r i (aj (ak s))) 3 r.next (aa.node 7 x a e kids) s).2 (aA G (aC r i (aj (ak s))) 3 r.next (aa.node 7 x a e kids) s).1:=by
  rw[bY,if_neg (by decide),if_neg (by decide),if_neg (by decide),if_pos (by decide)]
 rw[hq];obtain⟨Q,hQ⟩:∃Q,ae G i kids 0 kids.length (aA G (aC r i (aj (ak s))) 3 r.next (aa.node 7 x a e kids) s).2 (aA G (aC r i (aj (ak s))) 3 r.next (aa.node 7 x a e kids) s).1=Q:=⟨_,rfl⟩
 rw[hQ];have HQ:=kH hQ;clear hq hQ;rw[show aX (aa.node 7 x a e kids) A c= .agg #[.int .i64 7,.string x,.int .i64 a,.int .i64 e,.slice A nk c] by rw[<- hnk];rfl];obtain⟨nx,bD,hnb,yI,qV,hrw,hwn,hfx⟩:=BS h hrb hnk;have H:=kH h;have HS:=kH hs;have HK:Hid (aD w B A 0 kids):=kH hk;have dI:=kH hrb;have fQ:=kH hnk;have kX:=kH hvk;have eH:=kH hih;have HCAP:Hid (nk<=c):=kH (by rw[<- hnk];exact hcap);have dJ:=kH hbase;clear h hs hk hrb hnk hvk hih hv hcap hbase;go_enter Tryz.func79,Tryz.ntmps79
 go_upto_if 32 with fail
 generalize hW3:World.alloc (World.alloc (World.setCell w _ _) _) _=W3
 obtain⟨HR3,fZ,iF,mi,iA,c5,p0,qw,qQ⟩:=BQ H HS hW3;clear hW3 qV hfx;go_cut [] (fun wx=> ∃Vx,Hid (aS E G (aC r i (aj (ak s))) Vx wx)/\Hid (KX E (fun g=>g=E.vi) W3 wx))
 case first=>
  cases i with
  | false=>
   go_wp2_with fail
   go_meet
   exact⟨V,by have:=HR3.out;rw[<- bD.out]at this;exact kH this,kH (KX.refl _ _ _)⟩
  | true=>
   obtain⟨iB,eY,hs0⟩:=BP HR3 iA iF dI bD hnb;go_wp2_with fail
   go_region_held3 (fun w'=>w'.cell? ⟨E.rp,5,none⟩=some (.map (some E.vi))/\w'.cell? ⟨w.heap.size,0,none⟩=some (.pointer (some ⟨E.rp,0,none⟩))) (exact eY.out _ (by assumption)) ((go_at_call 145;refine iB.out.mono ?_;rintro e5 w5 ⟨v5,rfl,jR,hb5⟩;obtain⟨hs5,w6,hrun,lh,hs7⟩:=BO HR3 hb5 hs0 v5))
   have HX:=kH (BN HR3 fZ dI bD dJ hb5 jR lh);clear hs5 hs7 lh hb5 jR hs0 hrun;go_wp2_with fail
   go_meet
   exact HX.out
 case rest=>
  obtain⟨Vx,gF,mq⟩:=hcut;obtain⟨HV,HD,qE,HU,rE⟩:=BM hB hsep gF mq HR3 fZ iF mi iA HK dI bD dJ hnb;obtain⟨gi,gb,uF,yY,hlk⟩:=BJ gF x;obtain⟨⟨q0,lp⟩,⟨n0,n1,n2,n3,n4,ln⟩,⟨c0,c1,c2,c8,lr⟩⟩:=HV.out.cells;clear c5 p0 qw qQ c8
  obtain⟨l,s2,hs2⟩:∃l s2,s=l::s2:=by
   have:=kX.out.1
   cases s with
   | nil=>cases this
   | cons l s2=>exact⟨l,s2,rfl⟩
  obtain⟨m,vY,wE⟩:∃m vY,ms=m::vY:=by
   have h1:=HV.out.S;rw[hs2]at h1;obtain⟨b,m,p',ms',h2,h3,-⟩:=h1;exact⟨m,ms',h3⟩
  have jT:ae G i kids 0 nk (aA G (aC r i (aj (ak s))) 3 nx (aa.node 7 x a e kids) s).2 (aA G (aC r i (aj (ak s))) 3 nx (aa.node 7 x a e kids) s).1=Q:=by
   rw[<- HQ.out,fQ.out,<- bD.out]
  have oF:=kH jT;have pQ:Hid (qY r (aA G (aC r i (aj (ak s))) 3 nx (aa.node 7 x a e kids) s).1):=kH (by have:=dH.nz G r i (aj (ak s)) 3 (aa.node 7 x a e kids) s;rw[bD.out]at this;exact this);have jb:Hid ((aA G (aC r i (aj (ak s))) 3 nx (aa.node 7 x a e kids) s).1.next=r.next+1):=kH (by have:=oP G r i (aj (ak s)) 3 (aa.node 7 x a e kids) s;rw[bD.out]at this⊢;exact this);have hvar:=fun q=>(HV.out.drewN q).nz (aa.node 7 x a e kids) ⟨rfl,rfl,rfl,rfl,rfl⟩ fQ.out HD.out qE.out 3 nx HU.out l s2 m vY (by have:=(HV.out.drewN q).S;rw[hs2,wE]at this;exact this) (by rw[<- wE];exact hsep) (.inl (.inr (by rw[wE];rfl)))
  rw[<- hs2,<- wE]at hvar;have Jn:=kH hvar;clear hvar jT hs2 wE;go_wp2_with fail
  go_quiet (fail)
  go_wp2_with fail
  refine(Jn.out _).mono ?_;rintro e8 w8 ⟨rfl,-,V8,h8⟩;obtain⟨⟨q8,zM⟩,⟨-,-,-,-,n8,GD⟩,-⟩:=h8.cells;have hcall:=h8.kids eH.out i 0 nk nk (by omega) fQ.out (by show 0+nk<=nk;omega) HCAP.out (by rw[Br (yF G _ 3 nx (aa.node 7 x a e kids) s)];exact kX.out.2) (dI.out.kids (t:=(aa.node 7 x a e kids)) pQ.out (by have h1:=Jf G (aC r i (aj (ak s))) 3 nx (aa.node 7 x a e kids) s;rw[jb.out];omega) (rE.out _ jb.out)) hsep (fun g hg=>.inl hg);rw[oF.out]at hcall;have HC:=kH hcall;clear hcall h8;go_wp2_with fail
  refine HC.out.mono ?_;rintro e10 bf ⟨rfl,-,yA,h10⟩;have HE:Hid (∃V',aS E G Q.1 V' bf/\bK bf E.base p Q.2 ms/\KX E (fun g=>g=E.vi\/ms.head? =some g) w bf):=kH h10.end_;clear h10 HC q8 n8;go_wp2_with fail
  go_end0
  exact⟨rfl,HE.out⟩
theorem LD(E:RC)(G:aW)(B:Nat)(hB:B<=E.base)(x:ByteArray)(a e:Int)(kids:List aa)(hih:∀k∈kids,fI E G B k):fI E G B (.node 8 x a e kids):=by
 intro i s p ms r V w A c h hs hsep hk hcap hbase hv hrb;obtain⟨nk,hnk⟩:∃q,kids.length=q:=⟨_,rfl⟩
 have hvk:s.isEmpty=false/\lT s.isEmpty kids=true:=by
  rw[pY,if_neg (by decide),if_neg (by decide),if_pos (by decide)]at hv;simp only[aaF,Bool.not_eq_true']at hv;exact⟨hv.1.1.1,hv.2⟩
 have hq:aF G i (aa.node 8 x a e kids) s r=ae G i kids 0 kids.length (aA G (aC r i (aj (ak s))) 3 r.next (aa.node 8 x a e kids) s).2 (aA G (aC r i (aj (ak s))) 3 r.next (aa.node 8 x a e kids) s).1:=by
  rw[bY,if_neg (by decide),if_neg (by decide),if_neg (by decide),if_pos (by decide)]
 rw[hq];obtain⟨Q,hQ⟩:∃Q,ae G i kids 0 kids.length (aA G (aC r i (aj (ak s))) 3 r.next (aa.node 8 x a e kids) s).2 (aA G (aC r i (aj (ak s))) 3 r.next (aa.node 8 x a e kids) s).1=Q:=⟨_,rfl⟩
 rw[hQ];have HQ:=kH hQ;clear hq hQ;rw[show aX (aa.node 8 x a e kids) A c= .agg #[.int .i64 8,.string x,.int .i64 a,.int .i64 e,.slice A nk c] by rw[<- hnk];rfl];obtain⟨nx,bD,hnb,yI,qV,hrw,hwn,hfx⟩:=BS h hrb hnk;have H:=kH h;have HS:=kH hs;have HK:Hid (aD w B A 0 kids):=kH hk;have dI:=kH hrb;have fQ:=kH hnk;have kX:=kH hvk;have eH:=kH hih;have HCAP:Hid (nk<=c):=kH (by rw[<- hnk];exact hcap);have dJ:=kH hbase;clear h hs hk hrb hnk hvk hih hv hcap hbase;go_enter Tryz.func79,Tryz.ntmps79
 go_upto_if 32 with fail
 generalize hW3:World.alloc (World.alloc (World.setCell w _ _) _) _=W3
 obtain⟨HR3,fZ,iF,mi,iA,c5,p0,qw,qQ⟩:=BQ H HS hW3;clear hW3 qV hfx;go_cut [] (fun wx=> ∃Vx,Hid (aS E G (aC r i (aj (ak s))) Vx wx)/\Hid (KX E (fun g=>g=E.vi) W3 wx))
 case first=>
  cases i with
  | false=>
   go_wp2_with fail
   go_meet
   exact⟨V,by have:=HR3.out;rw[<- bD.out]at this;exact kH this,kH (KX.refl _ _ _)⟩
  | true=>
   obtain⟨iB,eY,hs0⟩:=BP HR3 iA iF dI bD hnb;go_wp2_with fail
   go_region_held3 (fun w'=>w'.cell? ⟨E.rp,5,none⟩=some (.map (some E.vi))/\w'.cell? ⟨w.heap.size,0,none⟩=some (.pointer (some ⟨E.rp,0,none⟩))) (exact eY.out _ (by assumption)) ((go_at_call 145;refine iB.out.mono ?_;rintro e5 w5 ⟨v5,rfl,jR,hb5⟩;obtain⟨hs5,w6,hrun,lh,hs7⟩:=BO HR3 hb5 hs0 v5))
   have HX:=kH (BN HR3 fZ dI bD dJ hb5 jR lh);clear hs5 hs7 lh hb5 jR hs0 hrun;go_wp2_with fail
   go_meet
   exact HX.out
 case rest=>
  obtain⟨Vx,gF,mq⟩:=hcut;obtain⟨HV,HD,qE,HU,rE⟩:=BM hB hsep gF mq HR3 fZ iF mi iA HK dI bD dJ hnb;obtain⟨gi,gb,uF,yY,hlk⟩:=BJ gF x;obtain⟨⟨q0,lp⟩,⟨n0,n1,n2,n3,n4,ln⟩,⟨c0,c1,c2,c8,lr⟩⟩:=HV.out.cells;clear c5 p0 qw qQ c8
  obtain⟨l,s2,hs2⟩:∃l s2,s=l::s2:=by
   have:=kX.out.1
   cases s with
   | nil=>cases this
   | cons l s2=>exact⟨l,s2,rfl⟩
  obtain⟨m,vY,wE⟩:∃m vY,ms=m::vY:=by
   have h1:=HV.out.S;rw[hs2]at h1;obtain⟨b,m,p',ms',h2,h3,-⟩:=h1;exact⟨m,ms',h3⟩
  have jT:ae G i kids 0 nk (aA G (aC r i (aj (ak s))) 3 nx (aa.node 8 x a e kids) s).2 (aA G (aC r i (aj (ak s))) 3 nx (aa.node 8 x a e kids) s).1=Q:=by
   rw[<- HQ.out,fQ.out,<- bD.out]
  have oF:=kH jT;have pQ:Hid (qY r (aA G (aC r i (aj (ak s))) 3 nx (aa.node 8 x a e kids) s).1):=kH (by have:=dH.nz G r i (aj (ak s)) 3 (aa.node 8 x a e kids) s;rw[bD.out]at this;exact this);have jb:Hid ((aA G (aC r i (aj (ak s))) 3 nx (aa.node 8 x a e kids) s).1.next=r.next+1):=kH (by have:=oP G r i (aj (ak s)) 3 (aa.node 8 x a e kids) s;rw[bD.out]at this⊢;exact this);have hvar:=fun q=>(HV.out.drewN q).nz (aa.node 8 x a e kids) ⟨rfl,rfl,rfl,rfl,rfl⟩ fQ.out HD.out qE.out 3 nx HU.out l s2 m vY (by have:=(HV.out.drewN q).S;rw[hs2,wE]at this;exact this) (by rw[<- wE];exact hsep) (.inl (.inr (by rw[wE];rfl)))
  rw[<- hs2,<- wE]at hvar;have Jn:=kH hvar;clear hvar jT hs2 wE;go_wp2_with fail
  go_quiet (fail)
  go_wp2_with fail
  refine(Jn.out _).mono ?_;rintro e8 w8 ⟨rfl,-,V8,h8⟩;obtain⟨⟨q8,zM⟩,⟨-,-,-,-,n8,GD⟩,-⟩:=h8.cells;have hcall:=h8.kids eH.out i 0 nk nk (by omega) fQ.out (by show 0+nk<=nk;omega) HCAP.out (by rw[Br (yF G _ 3 nx (aa.node 8 x a e kids) s)];exact kX.out.2) (dI.out.kids (t:=(aa.node 8 x a e kids)) pQ.out (by have h1:=Jf G (aC r i (aj (ak s))) 3 nx (aa.node 8 x a e kids) s;rw[jb.out];omega) (rE.out _ jb.out)) hsep (fun g hg=>.inl hg);rw[oF.out]at hcall;have HC:=kH hcall;clear hcall h8;go_wp2_with fail
  refine HC.out.mono ?_;rintro e10 bf ⟨rfl,-,yA,h10⟩;have HE:Hid (∃V',aS E G Q.1 V' bf/\bK bf E.base p Q.2 ms/\KX E (fun g=>g=E.vi\/ms.head? =some g) w bf):=kH h10.end_;clear h10 HC q8 n8;go_wp2_with fail
  go_end0
  exact⟨rfl,HE.out⟩
theorem Rv(E:RC)(G:aW)(B:Nat)(hB:B<=E.base)(x:ByteArray)(a e:Int)(kids:List aa)(hih:∀k∈kids,fI E G B k):fI E G B (.node 11 x a e kids):=by
 intro i s p ms r V w A c h hs hsep hk hcap hbase hv hrb;obtain⟨nk,hnk⟩:∃q,kids.length=q:=⟨_,rfl⟩
 have hvk:lT false kids=true:=by
  rw[pY,if_neg (by decide),if_pos rfl]at hv;exact hv
 have hq:aF G i (aa.node 11 x a e kids) s r=((ae G i kids 0 kids.length ([]::s) (aC r i (aj (ak s)))).1,(ae G i kids 0 kids.length ([]::s) (aC r i (aj (ak s)))).2.tail):=by
  rw[bY,if_neg (by decide),if_neg (by decide),if_neg (by decide),if_neg (by decide),if_pos rfl]
 rw[hq];obtain⟨Q,hQ⟩:∃Q,((ae G i kids 0 kids.length ([]::s) (aC r i (aj (ak s)))).1,(ae G i kids 0 kids.length ([]::s) (aC r i (aj (ak s)))).2.tail)=Q:=⟨_,rfl⟩
 rw[hQ];have HQ:=kH hQ;clear hq hQ;rw[show aX (aa.node 11 x a e kids) A c= .agg #[.int .i64 11,.string x,.int .i64 a,.int .i64 e,.slice A nk c] by rw[<- hnk];rfl];obtain⟨nx,bD,hnb,yI,qV,hrw,hwn,hfx⟩:=BS h hrb hnk;have H:=kH h;have HS:=kH hs;have HK:Hid (aD w B A 0 kids):=kH hk;have dI:=kH hrb;have fQ:=kH hnk;have kX:=kH hvk;have eH:=kH hih;have HCAP:Hid (nk<=c):=kH (by rw[<- hnk];exact hcap);have dJ:=kH hbase;clear h hs hk hrb hnk hvk hih hv hcap hbase;go_enter Tryz.func79,Tryz.ntmps79
 go_upto_if 32 with fail
 generalize hW3:World.alloc (World.alloc (World.setCell w _ _) _) _=W3
 obtain⟨HR3,fZ,iF,mi,iA,c5,p0,qw,qQ⟩:=BQ H HS hW3;clear hW3 qV hfx;go_cut [] (fun wx=> ∃Vx,Hid (aS E G (aC r i (aj (ak s))) Vx wx)/\Hid (KX E (fun g=>g=E.vi) W3 wx))
 case first=>
  cases i with
  | false=>
   go_wp2_with fail
   go_meet
   exact⟨V,by have:=HR3.out;rw[<- bD.out]at this;exact kH this,kH (KX.refl _ _ _)⟩
  | true=>
   obtain⟨iB,eY,hs0⟩:=BP HR3 iA iF dI bD hnb;go_wp2_with fail
   go_region_held3 (fun w'=>w'.cell? ⟨E.rp,5,none⟩=some (.map (some E.vi))/\w'.cell? ⟨w.heap.size,0,none⟩=some (.pointer (some ⟨E.rp,0,none⟩))) (exact eY.out _ (by assumption)) ((go_at_call 145;refine iB.out.mono ?_;rintro e5 w5 ⟨v5,rfl,jR,hb5⟩;obtain⟨hs5,w6,hrun,lh,hs7⟩:=BO HR3 hb5 hs0 v5))
   have HX:=kH (BN HR3 fZ dI bD dJ hb5 jR lh);clear hs5 hs7 lh hb5 jR hs0 hrun;go_wp2_with fail
   go_meet
   exact HX.out
 case rest=>
  obtain⟨Vx,gF,mq⟩:=hcut;obtain⟨HV,HD,qE,HU,rE⟩:=BM hB hsep gF mq HR3 fZ iF mi iA HK dI bD dJ hnb;obtain⟨gi,gb,uF,yY,hlk⟩:=BJ gF x;obtain⟨⟨q0,lp⟩,⟨n0,n1,n2,n3,n4,ln⟩,⟨c0,c1,c2,c8,lr⟩⟩:=HV.out.cells;clear c5 p0 qw qQ c8;obtain⟨Q1,hQ1⟩:∃Q1,ae G i kids 0 nk ([]::s) (aC r i (aj (ak s)))=Q1:=⟨_,rfl⟩
  have jT:(Q1.1,Q1.2.tail)=Q:=by rw[<- HQ.out,<- hQ1,fQ.out]
  have Yq:=kH hQ1;have oF:=kH jT;have hin:=fun q=>(HV.out.drewN q).EK (HV.out.drewN q).S hsep
  have Ll:=kH hin;clear hin hQ1 jT;go_wp2_with fail
  go_quiet (fail)
  go_wp2_with fail
  refine(Ll.out _).mono ?_;rintro e8 w8 ⟨b,m,rfl,hm,hb,gQ,iZ,wB,hbel,h8⟩;have hm1:w.heap.size<=m:=aaE HV.out.K.size hm;have h9:=h8.other iZ;obtain⟨⟨q8,zM⟩,⟨-,-,-,-,n8,GD⟩,-⟩:=h9.cells
  have hcall:=h9.kids eH.out i 0 nk nk (by omega) fQ.out (by show 0+nk<=nk;omega) HCAP.out kX.out (dI.out.kids (t:=(aa.node 11 x a e kids)) (dH.none_ r i _) (by rw[qC];show 0+(ak s).length+r.next<=(ak s).length+(r.next+1);omega) (rE.out _ rfl)) wB (fun g hg=>by
   rcases hg with hg|hg
   ·exact .inl (.inl hg)
   ·exact .inr (by simp at hg;omega))
  rw[Yq.out]at hcall;have HC:=kH hcall;have HB:=kH hb;have H9:=kH h9;clear hcall h8 h9 hb iZ wB hbel gQ hm;go_wp2_with fail
  refine HC.out.mono ?_;rintro e10 bf ⟨rfl,k10,yA,h10⟩
  have HE:Hid (∃V',aS E G Q.1 V' bf/\bK bf E.base p Q.2 ms/\KX E (fun g=>g=E.vi\/ms.head? =some g) w bf):=kH (by
   rw[<- oF.out]
   exact(h10.other (bK.tail h10.S (H9.out.xC k10 HB.out))).end_)
  clear h10 HC q8 n8 k10;go_wp2_with fail
  go_end0
  exact⟨rfl,HE.out⟩
section
variable {E:RC}{G:aW}{B:Nat}{N:NB}{w0 w w1 w':World}{M M2:Nat->Prop}{r r':RS}{V V':RV}{s:aK}{p:Option Addr}{ms:List Nat}
theorem VW.outer(h:VW E G B N w0 M r V s p ms w)(hsep:Cn E ms)(hb:Below w.heap.size w w1)(hk:KX E M2 w1 w')(hr:aS E G r' V' w')(hM2:∀g,M2 g->g=E.vi\/w.heap.size<=g)(Ke:M E.vi):VW E G B N w0 M r' V' s p ms w':=by
 have hk1:KX E M2 w w':=(KX.of_below (M:=M2) hb).trans hk (fun g hg=>.inl hg);refine h.NV hk1 hr (fun m hm hg=>?_) (fun g hg=>?_)
 ·rcases hM2 m hg with e|e
  ·exact(hsep.apart m hm).2.2.2 e
  ·have:=bK.lt h.S m hm
   omega
 ·rcases hM2 g hg with rfl|e
  ·exact .inl Ke
  ·exact .inr (aaE h.K.size e)
theorem VW.store{l l2:jr}{m:Nat}(h:VW E G B N w0 M r V (l::s) p (m::ms) w)(hsep:Cn E (m::ms))(hs:az (fun g=>g=m) w w')(hm:aZ jg w' m (jF l2))(hM:M m\/w0.heap.size<=m):VW E G B N w0 M r V (l2::s) p (m::ms) w':=by
 obtain⟨b,m',p2,ms',rfl,h2,h3,h4,h5,h6,h7⟩:=h.S;simp only[List.cons.injEq]at h2;obtain⟨rfl,rfl⟩:=h2;have PY:=h6.isMap;have Vm:=hsep.apart m (by simp);have hnd:=List.nodup_cons.1 hsep.nodup;have km:KX E (fun g=>g=m) w w':=KX.nY hs rfl h4 PY;refine h.step km (h.R.nY hs Vm PY) ⟨b,m,p2,ms,rfl,rfl,h3,h4,?_,hm,?_⟩ (fun g hg=>by rw[hg];exact hM)
 ·refine h5.since hs (fun e=>?_)
  obtain⟨es,ck,ho⟩:=PY;subst e;have:w.heap[b]? =some (Obj.cells _ _ (0,0)):=h5;rw[ho]at this;cases this
 ·exact bK.kx km h.R.nX h7 (fun g hg e=>hnd.1 (by rw[<- e];exact hg))
theorem Sg(G:aW)(r:RS)(c:Int)(n:Nat)(t:aa)(s:aK):∃l,(aA G r c n t ([]::s)).2=l::s/\l.length<=1:=by
 unfold aA;split
 ·exact⟨[],rfl,Nat.zero_le _⟩
 ·exact⟨[(t.text,(n:Int))],rfl,aaD _⟩
end
theorem tQ{a b:ByteArray}(h:a.data.toList=b.data.toList):a=b:=by
 obtain⟨a⟩:=a;obtain⟨b⟩:=b;have:a=b:=Array.toList_inj.1 h;rw[this]
theorem qg{P:Program}{ops:Array Oper}{Q:Exit->Act->World->Prop}{S:World->Prop}{ex:List Nat}{k:Nat}{ss:List Bool}{o:Oper}{rest:List Oper}{a:Act}{w:World}{f:FuncId}{args:Array Value}(hg:Region.wanted o (yielded ops a.tmps)=true)
 (hr:(execOp a.eval o).run P w= .ok (.enter f args) w) (h:Calls P f args w fun e w'=> ∃v,e= .returned v/\(ex.contains k=false->S w')/\sM P ops Q S ex (k+1) ss rest (a.put o.dst v) w'):sM P ops Q S ex k (false::ss) (o::rest) a w:=
 ⟨hg,by unfold Oper.wp;rw[hr];exact h.mono (fun e w' ⟨v,he,h1,h2⟩=>by subst he;exact⟨h1,h2⟩)⟩
theorem TQ(E:RC)(G:aW)(B:Nat)(hB:B<=E.base)(x:ByteArray)(a e:Int)(kids:List aa)(hih:∀k∈kids,fI E G B k):fI E G B (.node 5 x a e kids):=by
 intro i s p ms r V w A c h hs hsep hk hcap hbase hv hrb;obtain⟨nk,hnk⟩:∃q,kids.length=q:=⟨_,rfl⟩
 have hvk:kids.length=3/\lT false kids=true:=by
  rw[pY,if_pos rfl]at hv;simp only[aaF,decide_eq_true_eq]at hv;exact hv
 have hq:aF G i (aa.node 5 x a e kids) s r=((ae G true kids 2 1 ([]::(ae G false kids 0 2 [[]] { aQ (aC r i (aj (ak s))) 2 r.next (aa.node 5 x a e kids) (decide ((aN G.globals x).getD 0≠(r.next:Int))) with owner:=(r.next:Int) }).2) (ae G false kids 0 2 [[]] { aQ (aC r i (aj (ak s))) 2 r.next (aa.node 5 x a e kids) (decide ((aN G.globals x).getD 0≠(r.next:Int))) with owner:=(r.next:Int) }).1).1,s):=by
  rw[bY,if_neg (by decide),if_neg (by decide),if_pos rfl]
 rw[hq];obtain⟨Q,hQ⟩:∃Q,((ae G true kids 2 1 ([]::(ae G false kids 0 2 [[]] { aQ (aC r i (aj (ak s))) 2 r.next (aa.node 5 x a e kids) (decide ((aN G.globals x).getD 0≠(r.next:Int))) with owner:=(r.next:Int) }).2) (ae G false kids 0 2 [[]] { aQ (aC r i (aj (ak s))) 2 r.next (aa.node 5 x a e kids) (decide ((aN G.globals x).getD 0≠(r.next:Int))) with owner:=(r.next:Int) }).1).1,s)=Q:=⟨_,rfl⟩
 rw[hQ];have HQ:=kH hQ;clear hq hQ;rw[show aX (aa.node 5 x a e kids) A c= .agg #[.int .i64 5,.string x,.int .i64 a,.int .i64 e,.slice A nk c] by rw[<- hnk];rfl];obtain⟨nx,bD,hnb,yI,qV,hrw,hwn,hfx⟩:=BS h hrb hnk;have H:=kH h;have HS:=kH hs;have HK:Hid (aD w B A 0 kids):=kH hk;have dI:=kH hrb;have fQ:=kH hnk;have kX:=kH hvk;have eH:=kH hih;have HCAP:Hid (nk<=c):=kH (by rw[<- hnk];exact hcap);have dJ:=kH hbase;clear h hs hk hrb hnk hvk hih hv hcap hbase;go_enter Tryz.func79,Tryz.ntmps79
 go_upto_if 32 with fail
 generalize hW3:World.alloc (World.alloc (World.setCell w _ _) _) _=W3
 obtain⟨HR3,fZ,iF,mi,iA,c5,p0,qw,qQ⟩:=BQ H HS hW3;clear hW3 qV hfx;go_cut [] (fun wx=> ∃Vx,Hid (aS E G (aC r i (aj (ak s))) Vx wx)/\Hid (KX E (fun g=>g=E.vi) W3 wx))
 case first=>
  cases i with
  | false=>
   go_wp2_with fail
   go_meet
   exact⟨V,by have:=HR3.out;rw[<- bD.out]at this;exact kH this,kH (KX.refl _ _ _)⟩
  | true=>
   obtain⟨iB,eY,hs0⟩:=BP HR3 iA iF dI bD hnb;go_wp2_with fail
   go_region_held3 (fun w'=>w'.cell? ⟨E.rp,5,none⟩=some (.map (some E.vi))/\w'.cell? ⟨w.heap.size,0,none⟩=some (.pointer (some ⟨E.rp,0,none⟩))) (exact eY.out _ (by assumption)) ((go_at_call 145;refine iB.out.mono ?_;rintro e5 w5 ⟨v5,rfl,jR,hb5⟩;obtain⟨hs5,w6,hrun,lh,hs7⟩:=BO HR3 hb5 hs0 v5))
   have HX:=kH (BN HR3 fZ dI bD dJ hb5 jR lh);clear hs5 hs7 lh hb5 jR hs0 hrun;go_wp2_with fail
   go_meet
   exact HX.out
 case rest=>
  obtain⟨Vx,gF,mq⟩:=hcut;obtain⟨HV,HD,qE,HU,rE⟩:=BM hB hsep gF mq HR3 fZ iF mi iA HK dI bD dJ hnb;obtain⟨gi,gb,uF,yY,hlk⟩:=BJ gF x;obtain⟨⟨q0,lp⟩,⟨n0,n1,n2,n3,n4,ln⟩,⟨c0,c1,c2,c8,lr⟩⟩:=HV.out.cells;clear c5 p0 qw qQ c8;obtain⟨D,XL⟩:∃D:RS,({ aQ (aC r i (aj (ak s))) 2 nx (aa.node 5 x a e kids) (gi !=(nx:Int)) with owner:=(nx:Int) }:RS)=D:=⟨_,rfl⟩
  obtain⟨X,hX⟩:∃X,ae G false kids 0 2 [[]] D=X:=⟨_,rfl⟩
  have jT:((ae G true kids 2 1 ([]::X.2) X.1).1,s)=Q:=by
   rw[<- HQ.out,<- hX,<- XL,QS,<- uF.out,bD.out]
  have hsl:qY r D:=by
   have:=dH.trans (dH.declare r i (aj (ak s)) 2 (aa.node 5 x a e kids) (gi !=(nx:Int))) (dH.owner _ (nx:Int));rw[bD.out]at this;rw[<- XL];exact this
  have hne:D.next=r.next+1:=by
   rw[<- XL];have:=rD r i (aj (ak s)) 2 (aa.node 5 x a e kids) (gi !=(nx:Int));rw[bD.out]at this⊢;exact this
  have hal:(ak ([[]]:aK)).length=0:=rfl;have hsx:qY r X.1:=dH.trans hsl (by rw[<- hX];exact xO G kids false 0 2 _ D)
  have hax:(ak ([]::X.2)).length+r.next<=(ak s).length+X.1.next:=by
   have h1:=iT G kids false 0 2 [[]] D;rw[hX,hal,hne]at h1;rw[qC];show 0+_+_<=_;omega
  have hnx2:X.1.next<=r.next+1+ag ((aa.node 5 x a e kids).kids.take 2):=by
   have h1:=o9 G kids false 0 2 [[]] D;rw[hX,hne]at h1;exact h1
  have pQ:=kH hsl;have jb:=kH hne;have HDD:=kH XL;have HX:=kH hX;have oF:=kH jT;have Ah:=kH hsx;have Lx:=kH hax;have VV:=kH hnx2;have hdec:=fun q=>(HV.out.drewN q).QN (aa.node 5 x a e kids) ⟨rfl,rfl,rfl,rfl,rfl⟩ fQ.out HD.out qE.out 2 nx HU.out (gi !=(nx:Int))
  have Rl:=kH hdec;clear hdec jT hsl hne hX XL hsx hax hnx2 hal;go_wp2_with fail
  go_quiet (fail)
  go_wp2_with fail
  refine(Rl.out _).mono ?_;rintro e8 w8 ⟨rfl,V8,h8⟩;obtain⟨⟨y8,ly8⟩,⟨-,-,-,-,z8,lz8⟩,⟨-,-,-,d8,ld8⟩⟩:=h8.cells;have fo8:=h8.R.blk.frozen 8;obtain⟨GR,rC⟩:=h8.R.OA (nx:Int) (fun _=>False);obtain⟨W9,qz⟩:∃W9,w8.setCell ⟨E.rp,8,none⟩ (.int .i64 (nx:Int))=W9:=⟨_,rfl⟩
  rw[qz]at GR rC;have hr9':aS E G D V8 W9:=by rw[<- HDD.out];exact GR
  have h9:=h8.NV rC hr9' (fun _ _ hf=>hf) (fun _ hf=>hf.elim);obtain⟨ow,how⟩:∃q,(aQ (aC r i (aj (ak s))) 2 nx (aa.node 5 x a e kids) (gi !=(nx:Int))).owner=q:=⟨_,rfl⟩
  rw[how]at d8;have hin9:=h9.EK (p1:=none) (s1:=[]) (ms1:=[]) ⟨rfl,rfl⟩ ⟨List.nodup_nil,fun m hm=>by cases hm⟩;have HIN9:=kH hin9;have H9:=kH h9;clear how h8 GR hr9' rC h9 hin9;go_wp2_with (rw[qz])
  refine HIN9.out.mono ?_;rintro e10 bf ⟨b,m,rfl,hm,hb,gQ,wD,Xp,hbel,h10⟩;have hm1:w.heap.size<=m:=aaE H9.out.K.size hm;have h11:=h10.other wD;obtain⟨⟨Gx,lq11⟩,⟨-,-,-,-,n11,ln11⟩,-⟩:=h11.cells
  have hcall:=h11.kids eH.out false 0 2 2 rfl fQ.out (by show 0+2<=nk;have:=kX.out.1;have:=fQ.out;omega) HCAP.out kX.out.2 (dI.out.kids (t:=(aa.node 5 x a e kids)) pQ.out (by have:=jb.out;show 0+r.next<=_;omega) (by rw[jb.out];exact Nat.le_add_right _ _)) Xp (fun g hg=>by
   rcases hg with hg|hg
   ·exact .inl (.inl hg)
   ·exact .inr (by simp at hg;omega))
  rw[HX.out]at hcall;have HC:=kH hcall;have HBEL:=kH hbel;have HM:Hid (W9.heap.size<=m/\w.heap.size<=m):=kH ⟨hm,hm1⟩;clear hcall h10 h11 hb wD hbel gQ hm hm1 qz fo8 d8 y8 z8 ly8 lz8 ld8;go_wp2_with fail
  refine HC.out.mono ?_;rintro e12 mE ⟨rfl,k12,V12,h12⟩
  have Jr:=kH (H9.out.outer hsep HBEL.out k12 h12.R (fun g hg=>by
   rcases hg with hg|hg
   ·exact .inl hg
   ·exact .inr (by have:=HM.out.1;simp at hg;omega)) (.inl rfl))
  have hin12:=h12.EK h12.S Xp;have HIN12:=kH hin12;have HM12:Hid (w.heap.size<=mE.heap.size):=kH h12.K.size;clear k12 h12 hin12 Gx lq11 n11 ln11 HC;go_wp2_with fail
  refine HIN12.out.mono ?_;rintro e13 uw ⟨b2,m2,rfl,hm2,hb2,Qn,PN,hsep13,Xy,pI⟩;have dR:w.heap.size<=m2:=aaE HM12.out hm2;have yx:=pI.other PN;obtain⟨⟨q14,lq14⟩,⟨-,-,-,-,n14,ln14⟩,-⟩:=yx.cells
  have hcall:=yx.kids eH.out true 2 1 3 rfl fQ.out (by show 2+1<=nk;have:=kX.out.1;have:=fQ.out;omega) HCAP.out kX.out.2 (dI.out.kids (t:=(aa.node 5 x a e kids)) Ah.out Lx.out VV.out) hsep13 (fun g hg=>by
   rcases hg with hg|hg
   ·exact .inl (.inl hg)
   ·exact .inr (by simp at hg;omega))
  have HC:=kH hcall;have HBEL13:=kH Xy;have HM13:Hid (mE.heap.size<=m2):=kH hm2;clear hcall pI yx hb2 PN Xy Qn hm2 dR;go_wp2_with fail
  refine HC.out.mono ?_;rintro e15 Gf ⟨rfl,k15,V15,DV⟩
  have HE:Hid (∃V',aS E G Q.1 V' Gf/\bK Gf E.base p Q.2 ms/\KX E (fun g=>g=E.vi\/ms.head? =some g) w Gf):=kH (by
   rw[<- oF.out]
   exact(Jr.out.outer hsep HBEL13.out k15 DV.R (fun g hg=>by
    rcases hg with hg|hg
    ·exact .inl hg
    ·exact .inr (by have:=HM13.out;simp at hg;omega)) (.inl rfl)).end_)
  clear k15 DV HC q14 n14;go_wp2_with fail
  try simp only[Exit.inBlock,Exit.then]
  refine bodyPost_ret (results_none rfl _ _ _) rfl ?_;exact⟨rfl,HE.out⟩
end Go.Proofs.YtoepemlnlpamlaaGreat
