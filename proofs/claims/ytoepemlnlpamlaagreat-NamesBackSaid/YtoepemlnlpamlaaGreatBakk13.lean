/- The law NamesBack holds for every text and every number: it returns true, and its arguments read as before. No condition. Part 13: Branch StartM Start. -/
import Derived.Test.YtoepemlnlpamlaaGreatBakk05
import Derived.Test.YtoepemlnlpamlaaGreatBakk12
set_option maxRecDepth 100000
set_option maxHeartbeats 4000000
namespace Go.Proofs.YtoepemlnlpamlaaGreat
open Go.RowKit
theorem gG.store{w w':World}{P:Nat->Prop}{g g':Nat}{t:aa}{a b c d e:Value}(h:gG w P g' t a b c d e)(hk:bO (fun x=>x≠g) w w')(hP:∀x,P x->x≠g)(hne:g'≠g):gG w' P g' t a b c d e:=
 ⟨ai.keep h.1 (hk g' _ hne h.1),aB.keeps (fun x cs hx hc=>hk x cs (hP x hx) hc) _ _ h.2⟩
theorem VL(E:PE)(hE:E.Ok)(f:Nat)(IH:∀f',f'<=f->xN E f')(v:PV)(w:World)(t:aa)(q:PS)(hpw:PW w E v)(h5:bG E.l v.st≠5)(hr:aJ E.bs E.l (f+1) .branch v.st=some ([t],q)):Calls Tryz.prog 135 #[.pointer (some ⟨E.gp,0,none⟩)] w (bq E w v (t,q)):=by
 rw[aJ]at hr;obtain⟨x3,q3,hx,hr2⟩:=ek hr;obtain⟨x5,q5,hy,hr3⟩:=ek hr2;have HX:=kH hx;have HY:=kH hy;have HR:=kH hr3;have HA:=kH (IH f (aaD _));have Rj:=kH h5;obtain⟨b1,hb1⟩:∃x,bB E.bs E.l q5 [101,108,115,101]=x:=⟨_,rfl⟩
 have HB1:=kH hb1;obtain⟨b2,hb2⟩:∃x,bB E.bs E.l (ay E.l q5) [105,102]=x:=⟨_,rfl⟩
 have HB2:=kH hb2;clear hr hx hr2 hy hr3 IH h5 hb1 hb2;have hgl:=hpw.blk.lt;have hk2:w.cell? ⟨E.gp,2,none⟩=some (.int .i64 (v.st.k:Int)):=hpw.blk.cell 2;go_enter Tryz.func135,Tryz.ntmps135
 go_wp2_with fail
 generalize hW1:w.alloc (.cells #[.int .i64 0,.string ⟨#[]⟩,.int .i64 0,.int .i64 0,.slice none 0 0] 24)=W1
 have hb1:Below w.heap.size w W1:=by rw[<- hW1];exact af _ _
 have eD:ai W1 w.heap.size 24 #[.int .i64 0,.string ⟨#[]⟩,.int .i64 0,.int .i64 0,.slice none 0 0]:=by rw[<- hW1];exact ai.new w _ _
 have hs1:W1.heap.size=w.heap.size+1:=by rw[<- hW1];simp
 have hm1:=PM.of_below (E:=E) (v:=v) hb1;have h1:=hpw.below hb1;have P1:=hm1;have nV:=kH hs1;have xq:=kH hm1;clear hW1 hs1 hm1 hb1;clear hk2;have Q5:Hid (v.st=v.st):=kH rfl;refine(vH E hE v _ h1 Q5.out Rj.out).mono ?_;rintro e w2 ⟨rfl,v2,hv2,h2,hm2⟩;have gD:=kH hv2;have hR2:=hm2.blk h1 eD;have P2:=P1.trans hm2;clear hv2 hm2;have hcall:=HA.out.expr 1 v2 w2 x3 q3 h2 (by omega) (by omega) (by rw[gD.out];exact HX.out);have HC:=kH hcall;clear hcall;go_wp2_with fail
 refine(HC.out).mono ?_;rintro e w3 ⟨k3,t3,a3,z3,A3,n3,c3,rfl,j3,v3,hv3,h3,dR⟩;try dsimp only at hv3 j3
 have fw:=kH hv3;have df:=dR.blk h2 hR2;have P3:=P2.trans dR;replace j3:=aB.weak (Q:=fun g=>w.heap.size+1<=g) (fun g _ hg=>aaE hR2.lt hg) _ _ j3
 clear hv3 dR;go_wp2_with fail
 generalize lV:w3.alloc (.cells #[.int .i64 k3,.string t3,.int .i64 a3,.int .i64 z3,.slice A3 n3 c3] 24)=w4
 have hb4:Below w3.heap.size w3 w4:=by rw[<- lV];exact af _ _
 have X3:gG w4 _ w3.heap.size _ (.int .i64 k3) (.string t3) (.int .i64 a3) (.int .i64 z3) (.slice A3 n3 c3):=⟨by rw[<- lV];exact ai.new w3 _ _,aB.keeps (bO.of_below hb4) _ _ j3⟩
 have hs4:w4.heap.size=w3.heap.size+1:=by rw[<- lV];simp
 have h4:=h3.below hb4;have dS:=df.below hb4 df.lt;have P4:=P3.trans (PM.of_below hb4);obtain⟨v4,hv4⟩:∃vv,vv=v3:=⟨_,rfl⟩
 have iU:=fw;rw[<- hv4]at h4 P4 iU;try rw[<- hs4]
 clear hv4 lV j3 hs4;have hcall:=HA.out.block v4 w4 x5 q5 h4 (by rw[iU.out];exact HY.out);have wW:=kH hcall;clear hcall;refine(wW.out).mono ?_;rintro e w5 ⟨k5,t5,a5,z5,A5,n5,c5,rfl,gT,v5,hv5,h5,gV⟩;try dsimp only at hv5 gT
 have HV5:=kH hv5;have eT:=gV.blk h4 dS;have P5:=P4.trans gV;replace gT:=aB.weak (Q:=fun g=>w.heap.size+1<=g) (fun g _ hg=>aaE dS.lt hg) _ _ gT
 replace X3:=X3.pm gV h4
 clear hv5 gV;have hk2:w5.cell? ⟨E.gp,2,none⟩=some (.int .i64 (v5.st.k:Int)):=h5.blk.cell 2;have hgl5:=h5.blk.lt;go_wp2_with fail
 generalize tF:w5.alloc (.cells #[.int .i64 k5,.string t5,.int .i64 a5,.int .i64 z5,.slice A5 n5 c5] 24)=w6
 have hb6:Below w5.heap.size w5 w6:=by rw[<- tF];exact af _ _
 have X5:gG w6 _ w5.heap.size _ (.int .i64 k5) (.string t5) (.int .i64 a5) (.int .i64 z5) (.slice A5 n5 c5):=⟨by rw[<- tF];exact ai.new w5 _ _,aB.keeps (bO.of_below hb6) _ _ gT⟩
 have hs6:w6.heap.size=w5.heap.size+1:=by rw[<- tF];simp
 have h6:=h5.below hb6;have fK:=eT.below hb6 eT.lt;have P6:=P5.trans (PM.of_below hb6);replace X3:=X3.below hb6
 obtain⟨v6,hv6⟩:∃vv,vv=v5:=⟨_,rfl⟩
 have kZ:=HV5;rw[<- hv6]at h6 P6 kZ;try rw[<- hs6]
 clear hv6 tF gT hs6;clear hk2;refine(ig E hE v6 _ h6 v5.st.k 0 [] (w.heap.size+1)).mono ?_;rintro e w7 ⟨rfl,dE,jS⟩;have h7:=h6.below dE;have ed:=fK.below dE fK.lt;have P7:=P6.trans (PM.of_below dE);replace X3:=(X3.below dE).weak (Q:=fun g=>w.heap.size+1<=g/\g≠w7.heap.size) (fun g _ hp=>⟨hp,by omega⟩)
 replace X5:=(X5.below dE).weak (Q:=fun g=>w.heap.size+1<=g/\g≠w7.heap.size) (fun g _ hp=>⟨hp,by omega⟩)
 have hg3:=X3.1.lt;have hg5:=X5.1.lt;have hlt7:=ed.lt;clear dE;go_wp2_with fail
 generalize mY:w7.alloc (.cells #[.int .i64 0,.string (aU []),.int .i64 (bN E.l v6.st v5.st.k []),.int .i64 (v6.st.last:Int),.slice none 0 0] 24)=w8
 have dK:Below w7.heap.size w7 w8:=by rw[<- mY];exact af _ _
 have X8:gG w8 _ w7.heap.size (aH E.l v6.st v5.st.k 0 [] []) (.int .i64 0) (.string (aU [])) (.int .i64 (bN E.l v6.st v5.st.k [])) (.int .i64 (v6.st.last:Int)) (.slice none 0 0):=⟨by rw[<- mY];exact ai.new w7 _ _,aB.keeps (bO.of_below dK) _ _ jS⟩
 have h8:=h7.below dK;have dW:=ed.below dK ed.lt;have P8:=P7.trans (PM.of_below dK);replace X3:=X3.below dK
 replace X5:=X5.below dK
 obtain⟨v8,dZ⟩:∃vv,vv=v6:=⟨_,rfl⟩
 have fV:=kZ;rw[<- dZ]at h8 P8 fV;clear dZ mY jS;cases b1
 case true=>
  refine(oM E hE v8 _ h8 fV.out [101,108,115,101] HB1.out).mono ?_;rintro e w9 ⟨rfl,v9,iy,h9,fD⟩;have j4:=kH iy;have eQ:=fD.blk h8 dW;have P9:=P8.trans fD;replace X3:=X3.pm fD h8
  replace X5:=X5.pm fD h8
  replace X8:=X8.pm fD h8
  clear iy fD;go_wp2_with fail
  refine(AB E hE v9 _ h9 j4.out [105,102] HB2.out).mono ?_;rintro e bf ⟨rfl,v10,fF,h10,eB⟩;have iO:=kH fF;have dG:=eB.blk h9 eQ;have jH:=P9.trans eB;replace X3:=X3.pm eB h9
  replace X5:=X5.pm eB h9
  replace X8:=X8.pm eB h9
  clear fF eB;cases b2
  case true=>
   obtain⟨x31,q31,hz,hrq⟩:∃x q1,aJ E.bs E.l f .branch (ay E.l q5)=some ([x],q1)/\(t,q)=(aH E.l q1 v.st.k 14 [] [x3,x5,x],q1):=by
    have:=HR.out;rw[HB1.out,if_pos rfl,HB2.out,if_pos rfl]at this;obtain⟨x,p,h1,h2⟩:=ek this;simp at h2;exact⟨x,p,h1,by rw[<- h2.1,<- h2.2]⟩
   have HZ:=kH hz;have aM:=kH hrq;clear hz hrq HR;have Yz:=kH (HA.out.branch v10 bf x31 q31 h10 (by rw[iO.out];exact F4 HB2.out) (by rw[iO.out];exact HZ.out));have hg10:=X8.1.lt;go_wp2_with fail
   refine(Yz.out).mono ?_;rintro e BI ⟨rA,t31,a31,z31,rH,n31,c31,rfl,mf,v31,hv31,h31,mI⟩;try dsimp only at hv31 mf
   have Dn:=kH hv31;have wM:=mI.blk h10 dG;have K4:=jH.trans mI;replace mf:=aB.weak (Q:=fun g=>w.heap.size+1<=g/\g≠w7.heap.size) (fun g _ hg=>⟨aaE dG.lt hg,by omega⟩) _ _ mf
   have oK:=mI.blk h10 X8.1;replace X3:=X3.pm mI h10
   replace X5:=X5.pm mI h10
   obtain⟨⟨q0,q1',q2',q3,q4⟩,Gw,Gv,Gu,Gt,Gs⟩:=oK.five;have CY:=oK.lt;clear hv31 mI X8;obtain⟨⟨O7,O6,O5,O4,O3⟩,O0,OZ,OY,OX,OW⟩:=X3.1.five;have OV:=X3.1.lt;obtain⟨⟨IB,Iz,Iw,Ir,Ip⟩,Im,Ik,Ii,Ig,Ic⟩:=X5.1.five;have Ia:=X5.1.lt;go_wp2_with fail
   clear O7 O6 O5 O4 O3 O0 OZ OY OX OW OV;clear IB Iz Iw Ir Ip Im Ik Ii Ig Ic Ia;obtain⟨h32,yT,wP,pF⟩:=vF h31 K4 oK (by omega) (.int .i64 rA) (.string t31) (.int .i64 a31) (.int .i64 z31) (.slice rH n31 c31);have vo:=wM.keep (pF w.heap.size _ (by omega) wM);have oC:gG _ _ _ _ (.int .i64 rA) (.string t31) (.int .i64 a31) (.int .i64 z31) (.slice rH n31 c31):=⟨wP,aB.keeps (w':=bZ BI w7.heap.size (.int .i64 rA) (.string t31) (.int .i64 a31) (.int .i64 z31) (.slice rH n31 c31)) (fun g cs hP hc=>pF g cs hP.2 hc) _ _ mf⟩
   replace X3:=(X3.store pF (fun x hx=>hx.2) (by omega)).weak (Q:=fun g=>w.heap.size+1<=g) (fun g _ hp=>hp.1)
   replace X5:=(X5.store pF (fun x hx=>hx.2) (by omega)).weak (Q:=fun g=>w.heap.size+1<=g) (fun g _ hp=>hp.1)
   replace oC:=oC.weak (Q:=fun g=>w.heap.size+1<=g) (fun g _ hp=>hp.1)
   obtain⟨w32,hw32⟩:∃W,bZ BI w7.heap.size (.int .i64 rA) (.string t31) (.int .i64 a31) (.int .i64 z31) (.slice rH n31 c31)=W:=⟨_,rfl⟩
   have PI:w32.heap.size=BI.heap.size:=by rw[<- hw32];simp[bZ]
   rw[hw32]at h32 yT vo oC X3 X5;unfold bZ at hw32;rw[hw32,<- PI];obtain⟨v32,hv32⟩:∃vv,vv=v31:=⟨_,rfl⟩
   have wU:=Dn;rw[<- hv32]at h32 yT wU;clear hv32 wP pF mf oK q0 q1' q2' q3 q4 Gw Gv Gu Gt Gs CY hw32 PI;have Re:=kH (yf X3.2 X5.2 oC.2 (by have:=vo.lt;omega));generalize Qt:w32.alloc (.cells #[.int .i64 k3,.string t3,.int .i64 a3,.int .i64 z3,.slice A3 n3 c3,.int .i64 k5,.string t5,.int .i64 a5,.int .i64 z5,.slice A5 n5 c5,.int .i64 rA,.string t31,.int .i64 a31,.int .i64 z31,.slice rH n31 c31] 24)=uK at Re⊢
   have I6:Below w32.heap.size w32 uK:=by rw[<- Qt];exact af _ _
   have Cg:=h32.below I6;have tJ:=vo.below I6 vo.lt;have Fv:=yT.trans (PM.of_below I6);obtain⟨v33,wu⟩:∃vv,vv=v32:=⟨_,rfl⟩
   have Ag:=wU;rw[<- wu]at Cg Fv Ag;clear wu Qt;refine(dN E hE v33 _ Cg v.st.k 14 [] (w.heap.size+1) (some ⟨w32.heap.size,0,none⟩) 3 3 [x3,x5,x31] Re.out).mono ?_;rintro e Oe ⟨rfl,og,Qy⟩;have zW:=Cg.below og;have wL:=tJ.below og tJ.lt;obtain⟨⟨r0,r1,r2,r3,r4⟩,g0,g1,g2,g3,g4⟩:=wL.five;go_wp2_with fail
   have aV:=kH (bF (v:=v) zW (Fv.trans (PM.of_below og)) rfl wL hgl Qy);clear Qy;refine bodyPost_ret (v:=.agg #[.int .i64 14,.string (aU []),.int .i64 (bN E.l v33.st v.st.k [x3,x5,x31]),.int .i64 (v33.st.last:Int),.slice (some ⟨w32.heap.size,0,none⟩) 3 3]) (by simp[results,Tryz.results135,go_sem,r0,r1,r2,r3,r4]) rfl ?_;exact Eq.mp (congrArg (fun r=>bq E w v r _ _) (show(aH E.l v33.st v.st.k 14 [] [x3,x5,x31],v33.st)=_ by rw[aM.out,Ag.out])) aV.out
  case false=>
   obtain⟨x31,q31,hz,hrq⟩:∃x q1,aJ E.bs E.l f .block (ay E.l q5)=some ([x],q1)/\(t,q)=(aH E.l q1 v.st.k 14 [] [x3,x5,x],q1):=by
    have:=HR.out;rw[HB1.out,if_pos rfl,HB2.out,if_neg (by simp)]at this;obtain⟨x,p,h1,h2⟩:=ek this;simp at h2;exact⟨x,p,h1,by rw[<- h2.1,<- h2.2]⟩
   have HZ:=kH hz;have aM:=kH hrq;clear hz hrq HR;have Yz:=kH (HA.out.block v10 bf x31 q31 h10 (by rw[iO.out];exact HZ.out));have hg10:=X8.1.lt;go_wp2_with fail
   refine(Yz.out).mono ?_;rintro e BI ⟨rA,t31,a31,z31,rH,n31,c31,rfl,mf,v31,hv31,h31,mI⟩;try dsimp only at hv31 mf
   have Dn:=kH hv31;have wM:=mI.blk h10 dG;have K4:=jH.trans mI;replace mf:=aB.weak (Q:=fun g=>w.heap.size+1<=g/\g≠w7.heap.size) (fun g _ hg=>⟨aaE dG.lt hg,by omega⟩) _ _ mf
   have oK:=mI.blk h10 X8.1;replace X3:=X3.pm mI h10
   replace X5:=X5.pm mI h10
   obtain⟨⟨q0,q1',q2',q3,q4⟩,Gw,Gv,Gu,Gt,Gs⟩:=oK.five;have CY:=oK.lt;clear hv31 mI X8;obtain⟨⟨O7,O6,O5,O4,O3⟩,O0,OZ,OY,OX,OW⟩:=X3.1.five;have OV:=X3.1.lt;obtain⟨⟨IB,Iz,Iw,Ir,Ip⟩,Im,Ik,Ii,Ig,Ic⟩:=X5.1.five;have Ia:=X5.1.lt;go_wp2_with fail
   clear O7 O6 O5 O4 O3 O0 OZ OY OX OW OV;clear IB Iz Iw Ir Ip Im Ik Ii Ig Ic Ia;obtain⟨h32,yT,wP,pF⟩:=vF h31 K4 oK (by omega) (.int .i64 rA) (.string t31) (.int .i64 a31) (.int .i64 z31) (.slice rH n31 c31);have vo:=wM.keep (pF w.heap.size _ (by omega) wM);have oC:gG _ _ _ _ (.int .i64 rA) (.string t31) (.int .i64 a31) (.int .i64 z31) (.slice rH n31 c31):=⟨wP,aB.keeps (w':=bZ BI w7.heap.size (.int .i64 rA) (.string t31) (.int .i64 a31) (.int .i64 z31) (.slice rH n31 c31)) (fun g cs hP hc=>pF g cs hP.2 hc) _ _ mf⟩
   replace X3:=(X3.store pF (fun x hx=>hx.2) (by omega)).weak (Q:=fun g=>w.heap.size+1<=g) (fun g _ hp=>hp.1)
   replace X5:=(X5.store pF (fun x hx=>hx.2) (by omega)).weak (Q:=fun g=>w.heap.size+1<=g) (fun g _ hp=>hp.1)
   replace oC:=oC.weak (Q:=fun g=>w.heap.size+1<=g) (fun g _ hp=>hp.1)
   obtain⟨w32,hw32⟩:∃W,bZ BI w7.heap.size (.int .i64 rA) (.string t31) (.int .i64 a31) (.int .i64 z31) (.slice rH n31 c31)=W:=⟨_,rfl⟩
   have PI:w32.heap.size=BI.heap.size:=by rw[<- hw32];simp[bZ]
   rw[hw32]at h32 yT vo oC X3 X5;unfold bZ at hw32;rw[hw32,<- PI];obtain⟨v32,hv32⟩:∃vv,vv=v31:=⟨_,rfl⟩
   have wU:=Dn;rw[<- hv32]at h32 yT wU;clear hv32 wP pF mf oK q0 q1' q2' q3 q4 Gw Gv Gu Gt Gs CY hw32 PI;have Re:=kH (yf X3.2 X5.2 oC.2 (by have:=vo.lt;omega));generalize Qt:w32.alloc (.cells #[.int .i64 k3,.string t3,.int .i64 a3,.int .i64 z3,.slice A3 n3 c3,.int .i64 k5,.string t5,.int .i64 a5,.int .i64 z5,.slice A5 n5 c5,.int .i64 rA,.string t31,.int .i64 a31,.int .i64 z31,.slice rH n31 c31] 24)=uK at Re⊢
   have I6:Below w32.heap.size w32 uK:=by rw[<- Qt];exact af _ _
   have Cg:=h32.below I6;have tJ:=vo.below I6 vo.lt;have Fv:=yT.trans (PM.of_below I6);obtain⟨v33,wu⟩:∃vv,vv=v32:=⟨_,rfl⟩
   have Ag:=wU;rw[<- wu]at Cg Fv Ag;clear wu Qt;refine(dN E hE v33 _ Cg v.st.k 14 [] (w.heap.size+1) (some ⟨w32.heap.size,0,none⟩) 3 3 [x3,x5,x31] Re.out).mono ?_;rintro e Oe ⟨rfl,og,Qy⟩;have zW:=Cg.below og;have wL:=tJ.below og tJ.lt;obtain⟨⟨r0,r1,r2,r3,r4⟩,g0,g1,g2,g3,g4⟩:=wL.five;go_wp2_with fail
   have aV:=kH (bF (v:=v) zW (Fv.trans (PM.of_below og)) rfl wL hgl Qy);clear Qy;refine bodyPost_ret (v:=.agg #[.int .i64 14,.string (aU []),.int .i64 (bN E.l v33.st v.st.k [x3,x5,x31]),.int .i64 (v33.st.last:Int),.slice (some ⟨w32.heap.size,0,none⟩) 3 3]) (by simp[results,Tryz.results135,go_sem,r0,r1,r2,r3,r4]) rfl ?_;exact Eq.mp (congrArg (fun r=>bq E w v r _ _) (show(aH E.l v33.st v.st.k 14 [] [x3,x5,x31],v33.st)=_ by rw[aM.out,Ag.out])) aV.out
 have aM:Hid ((t,q)=(aH E.l q5 v.st.k 14 [] [x3,x5,aH E.l v6.st v5.st.k 0 [] []],q5)):=kH (by
  have:=HR.out;rw[HB1.out,if_neg (by simp)]at this;simp at this
  rw[kZ.out,HV5.out,<- this.1,<- this.2])
 clear HR;refine(qD E hE v8 _ h8 fV.out [101,108,115,101] HB1.out).mono ?_;rintro e w9 ⟨rfl,v9,iy,h9,fD⟩;have j4:=kH iy;have eQ:=fD.blk h8 dW;have P9:=P8.trans fD;replace X3:=X3.pm fD h8
 replace X5:=X5.pm fD h8
 replace X8:=X8.pm fD h8
 clear iy fD;obtain⟨⟨O7,O6,O5,O4,O3⟩,O0,OZ,OY,OX,OW⟩:=X3.1.five;have OV:=X3.1.lt;obtain⟨⟨IB,Iz,Iw,Ir,Ip⟩,Im,Ik,Ii,Ig,Ic⟩:=X5.1.five;have Ia:=X5.1.lt;obtain⟨⟨IA,Iy,Iu,Iq,Io⟩,Il,Ij,Ih,Ie,Ib⟩:=X8.1.five;have H7:=X8.1.lt;go_wp2_with fail
 clear O7 O6 O5 O4 O3 O0 OZ OY OX OW OV;clear IB Iz Iw Ir Ip Im Ik Ii Ig Ic Ia;clear IA Iy Iu Iq Io Il Ij Ih Ie Ib H7;have ru:=kH (yf (aB.weak (Q:=fun g=>w.heap.size+1<=g) (fun g _ hp=>hp.1) _ _ X3.2) (aB.weak (Q:=fun g=>w.heap.size+1<=g) (fun g _ hp=>hp.1) _ _ X5.2) X8.2 (by have:=eQ.lt;omega));generalize E9:w9.alloc (.cells #[.int .i64 k3,.string t3,.int .i64 a3,.int .i64 z3,.slice A3 n3 c3,.int .i64 k5,.string t5,.int .i64 a5,.int .i64 z5,.slice A5 n5 c5,.int .i64 0,.string (aU []),.int .i64 (bN E.l v6.st v5.st.k []),.int .i64 (v6.st.last:Int),.slice none 0 0] 24)=bf at ru⊢
 have ji:Below w9.heap.size w9 bf:=by rw[<- E9];exact af _ _
 have h10:=h9.below ji;have dG:=eQ.below ji eQ.lt;have jH:=P9.trans (PM.of_below ji);obtain⟨v10,fF⟩:∃vv,vv=v9:=⟨_,rfl⟩
 have iO:=j4;rw[<- fF]at h10 jH iO;clear fF E9;refine(dN E hE v10 _ h10 v.st.k 14 [] (w.heap.size+1) (some ⟨w9.heap.size,0,none⟩) 3 3 [x3,x5,aH E.l v6.st v5.st.k 0 [] []] ru.out).mono ?_;rintro e jm ⟨rfl,jh,nG⟩;have h11:=h10.below jh;have iW:=dG.below jh dG.lt;obtain⟨⟨r0,r1,r2,r3,r4⟩,g0,g1,g2,g3,g4⟩:=iW.five;go_wp2_with fail
 have aV:=kH (bF (v:=v) h11 (jH.trans (PM.of_below jh)) rfl iW hgl nG);clear nG;refine bodyPost_ret (v:=.agg #[.int .i64 14,.string (aU []),.int .i64 (bN E.l v10.st v.st.k [x3,x5,aH E.l v6.st v5.st.k 0 [] []]),.int .i64 (v10.st.last:Int),.slice (some ⟨w9.heap.size,0,none⟩) 3 3]) (by simp[results,Tryz.results135,go_sem,r0,r1,r2,r3,r4]) rfl ?_;exact Eq.mp (congrArg (fun r=>bq E w v r _ _) (show(aH E.l v10.st v.st.k 14 [] [x3,x5,aH E.l v6.st v5.st.k 0 [] []],v10.st)=_ by rw[aM.out,iO.out])) aV.out
theorem aab(E:PE)(hE:E.Ok):∀(f:Nat),∀f',f'<=f->xN E f':=by
 have h0:xN E 0:=by
  constructor<;> · intros;rename_i h;simp[aJ]at h
 intro f
 induction f with
 | zero=>
  intro f' hf;have:f'=0:=by omega
  subst this;exact h0
 | succ f ih=>
  intro f' hf;by_cases he:f'<=f
  ·exact ih f' he
  ·have:f'=f+1:=by omega
   subst this
   exact {
    expr:=fun lv v w t q hpw h1 h7 hr=>by
     by_cases h3:lv=3
     ·subst h3
      exact XV E hE f ih v w t q hpw hr
     ·by_cases SQ:lv=7
      ·subst SQ
       exact XU E hE f ih v w t q hpw hr
      ·exact XT E hE f ih lv h3 SQ h1 h7 v w t q hpw hr
    operand:=fun v w t q hpw hr=>RI E hE f ih v w t q hpw hr
    args:=fun v w kids q hpw h5 hr=>NS E hE f ih v w kids q hpw h5 hr
    place:=fun v w t q hpw hr=>WO E hE f ih v w t q hpw hr
    stmt:=fun v w t q hpw hr=>YO E hE f ih v w t q hpw hr
    block:=fun v w t q hpw hr=>X0 E hE f ih v w t q hpw hr
    branch:=fun v w t q hpw h5 hr=>VL E hE f ih v w t q hpw h5 hr }
theorem answ(E:PE)(hE:E.Ok)(f:Nat):xN E f:=aab E hE f f (aaD _)
end Go.Proofs.YtoepemlnlpamlaaGreat
namespace Go.Proofs.YtoepemlnlpamlaaGreat
def rz(n:Nat):Nat->List jl->Prop
 | _,[]=>False
 | lo,t::ts=>lo<=t.at_/\t.from_<=t.at_/\t.at_<=t.end_/\t.end_<=n/\((ts=[]/\t.kind=5/\t.at_=t.end_)\/(t.kind<=4/\rz n t.end_ ts))
theorem rz.mono{n:Nat}{lo lo':Nat}(h:lo'<=lo):∀{l:List jl},rz n lo l->rz n lo' l
 | [],hc=>hc
 | _::_,hc=>⟨aaE h hc.1,hc.2⟩
theorem JI{s:aP}:∀(f a:Nat),a<=s.length->s.length<f+a->rz s.length a (ug s f a):=by
 intro f
 induction f with
 | zero=>intro a h1 h2;omega
 | succ f ih=>
  intro a h1 h2;obtain⟨k1,hk1⟩:∃x,j6 s (s.length+1) a=x:=⟨_,rfl⟩
  have hs:=Cy (s:=s) (s.length+1) a h1 (by omega);rw[hk1]at hs;rw[ug];simp only[hk1];split
  ·rename_i h
   have:k1=s.length:=by omega
   exact⟨hs.1,hs.1,aaD _,by simp only;omega,.inl ⟨rfl,rfl,rfl⟩⟩
  ·rename_i h
   have hlt:k1<s.length:=by omega
   have ht:=Bh hlt (hs.2.2 hlt).1 (hs.2.2 hlt).2;have e1:=hs.1;have e2:=ht.1;exact⟨hs.1,hs.1,Nat.le_of_lt ht.1,ht.2.1,.inr ⟨ht.2.2,ih _ ht.2.1 (by show s.length<f+(gy s k1).2;omega)⟩⟩
theorem Fg{n:Nat}:∀{l:List jl}{lo:Nat},rz n lo l->rz n lo (l.filter fun t=>decide (t.kind≠4))
 | [],_,h=>h
 | t::ts,lo,h=>by
  obtain⟨h1,h2,h3,h4,h5⟩:=h;rcases h5 with⟨rfl,h6,h7⟩| ⟨h6,h7⟩
  ·have:(List.filter (fun t:jl=>decide (t.kind≠4)) [t])=[t]:=by simp[h6]
   rw[this];exact⟨h1,h2,h3,h4,.inl ⟨rfl,h6,h7⟩⟩
  ·have hr:=Fg h7
   by_cases hk:t.kind=4
   ·rw[List.filter_cons_of_neg (by simp[hk])]
    exact hr.mono (by omega)
   ·rw[List.filter_cons_of_pos (by simp[hk])]
    exact⟨h1,h2,h3,h4,.inr ⟨h6,hr⟩⟩
theorem Bi(s:aP):rz s.length 0 (iK s):=Fg (JI _ _ (Nat.zero_le _) (by omega))
theorem zG(t:jl)(ts:List jl)(k:Nat):gq (t::ts) (k+1)=gq ts k:=by simp[gq]
theorem Cx(t:jl)(ts:List jl):gq (t::ts) 0=t:=by simp[gq]
theorem Dj{n:Nat}:∀{l:List jl}{lo:Nat},rz n lo l->mX l
 | [],_,h=>h.elim
 | t::ts,lo,h=>by
  intro k hk hne;obtain⟨_,_,_,_,h5⟩:=h
  cases k with
  | zero=>
   rw[Cx]at hne;rcases h5 with⟨_,h6,_⟩| ⟨_,h7⟩
   ·exact absurd h6 hne
   ·cases ts with
    | nil=>exact h7.elim
    | cons _ _=>simp
  | succ k=>
   rw[zG]at hne;rcases h5 with⟨rfl,_,_⟩| ⟨_,h7⟩
   ·simp at hk
   ·have:=Dj h7 k (by simpa using hk) hne
    simp only[aaQ];omega
theorem KS{n:Nat}:∀{l:List jl}{lo:Nat},rz n lo l->∀k,(gq l k).kind=5->(gq l k).at_=(gq l k).end_
 | [],_,h,_,_=>h.elim
 | t::ts,lo,h,k,hk=>by
  obtain⟨_,_,_,_,h5⟩:=h
  cases k with
  | zero=>
   rw[Cx]at hk⊢;rcases h5 with⟨_,_,h7⟩| ⟨h6,_⟩
   ·exact h7
   ·omega
  | succ k=>
   rw[zG]at hk⊢;rcases h5 with⟨rfl,_,_⟩| ⟨_,h7⟩
   ·simp[gq,YK]
   ·exact KS h7 k hk
theorem GZ{n:Nat}{l:List jl}{lo:Nat}(s:aP)(h:rz n lo l):oQ s l:=by
 intro k hk;have:=KS h k hk;unfold bE Ar qN;rw[this];simp
theorem KR{n:Nat}:∀{l:List jl}{lo:Nat},rz n lo l->∀k,k+1<l.length->(gq l k).at_<=(gq l (k+1)).at_
 | [],_,h,_,_=>h.elim
 | t::ts,lo,h,k,hk=>by
  obtain⟨_,_,h3,_,h5⟩:=h;rcases h5 with⟨rfl,_,_⟩| ⟨_,h7⟩
  ·simp at hk
  ·cases k with
   | zero=>
    cases ts with
    | nil=>exact h7.elim
    | cons u us=>
     rw[Cx,zG,Cx];have:=h7.1;omega
   | succ k=>
    rw[zG,zG];exact KR h7 k (by simpa using hk)
theorem Fq{n:Nat}:∀{l:List jl}{lo:Nat},rz n lo l->∀t∈l,t.from_<=t.at_/\t.at_<=t.end_/\t.end_<=n/\t.kind<=5
 | [],_,h,_,_=>h.elim
 | t::ts,lo,h,u,hu=>by
  obtain⟨_,h2,h3,h4,h5⟩:=h;rcases List.mem_cons.1 hu with rfl|hu
  ·refine⟨h2,h3,h4,?_⟩
   rcases h5 with⟨_,h6,_⟩| ⟨h6,_⟩ <;>omega
  ·rcases h5 with⟨rfl,_,_⟩| ⟨_,h7⟩
   ·cases hu
   ·exact Fq h7 u hu
open Go.RowKit
theorem YU{s:aP}:∀(f a:Nat),a<=s.length->(ug s f a).length<=s.length - a+1:=by
 intro f
 induction f with
 | zero=>intro a h1;simp[ug]
 | succ f ih=>
  intro a h1;obtain⟨k1,hk1⟩:∃x,j6 s (s.length+1) a=x:=⟨_,rfl⟩
  have hs:=Cy (s:=s) (s.length+1) a h1 (by omega);rw[hk1]at hs;rw[ug];simp only[hk1];split
  ·simp
  ·rename_i h
   have hlt:k1<s.length:=by omega
   have ht:=Bh hlt (hs.2.2 hlt).1 (hs.2.2 hlt).2;have e1:=hs.1;have e2:=ht.1;have:=ih _ ht.2.1;simp only[aaQ];omega
theorem xQ(s:aP):(qO s).length<=s.length+1:=by
 have:=YU (s:=s) (s.length+1) 0 (Nat.zero_le _);unfold qO;omega
theorem MC(s:ByteArray)(w:World)(hs:s.size<=4096):Calls Tryz.prog 64 #[.string s] w fun e w'=> ∃E v,e= .returned (.pointer (some ⟨E.gp,0,none⟩))/\E.Ok/\E.bs=s.data.toList/\E.l=iK s.data.toList/\E.lo=w.heap.size/\v.st=⟨0,0,[]⟩/\PW w' E v/\Below w.heap.size w w':=by
 obtain⟨i0,hi0,hz0,hz1,hz2⟩:=info_parts Oq;go_enter Tryz.func64,Tryz.ntmps64
 go_wp2_with fail
 generalize hW1:w.alloc (.cells #[.string s,.slice none 0 0,.int .i64 0,.int .i64 0,.slice none 0 0] 130)=W1
 have hb1:Below w.heap.size w W1:=by rw[<- hW1];exact af _ _
 have eD:ai W1 w.heap.size 130 #[.string s,.slice none 0 0,.int .i64 0,.int .i64 0,.slice none 0 0]:=by rw[<- hW1];exact ai.new w _ _
 have hs1:W1.heap.size=w.heap.size+1:=by rw[<- hW1];simp
 refine(QW s W1 hs).mono ?_;rintro e w2 ⟨vl,rfl,hO2,hb2⟩;have hR2:=eD.below hb2 eD.lt;have lF:=hb1.trans (hb2.mono hb1.size);obtain⟨l,hl⟩:∃l,qO s.data.toList=l:=⟨_,rfl⟩
 rw[hl]at hO2;obtain⟨Al,cl,rfl,-,-⟩:=hO2.shape;have xm:=kH hO2;have HR2:=kH hR2;have HB2:=kH lF;have HL:=kH hl
 have hll:l.length<=4097:=by
  have:=xQ s.data.toList;rw[HL.out,bS]at this;omega
 have hlt2:=hR2.lt;clear hW1 hb1 eD hs1 hb2 hO2 hR2 lF hl;go_wp2_with fail
 go_loopg [6] l.length (fun gk s5 wr=> ∃(k:Nat) (A:Option Addr) (n c:Nat),k+gk=l.length/\s5= .int .i64 (k:Int)/\n=((l.take k).filter fun t=>decide (t.kind≠4)).length/\ai wr w.heap.size 130 #[.string s,.slice A n c,.int .i64 0,.int .i64 0,.slice none 0 0]/\aL wr w2.heap.size 186 4 (.slice A n c) n (((l.take k).filter fun t=>decide (t.kind≠4)).flatMap jM)/\az (fun g=>g=w.heap.size) w2 wr)
 case atStart=>exact⟨0,none,0,0,by omega,rfl,rfl,HR2.out,aL.nil _ _ _ _,az.refl _ _⟩
 case round=>
  obtain⟨k,A,n,c,hk,rfl,hn,hR,hO,hS⟩:=hrel;have HN:=kH hn;have HR:=kH hR;have HO:=kH hO;have HS:=kH hS;have hgr:=hR.lt;have hc1:wr.cell? ⟨w.heap.size,1,none⟩=some (.slice A n c):=hR.cell 1;have hfz:=hR.frozen 1;have XH:=xm.out.since hS (fun g hg e1=>xm.out.eu HR2.out (by decide) (by rw[hg,e1]));have Yv:=kH XH;have hnk:n<=k:=by rw[hn];exact aaE (List.length_filter_le _ _) (by simp;omega)
  clear hn hR hO hS XH;by_cases hkl:k<l.length
  ·obtain⟨tk,htk⟩:∃x,l[k]? =some x:=⟨_,aaH hkl⟩
   obtain⟨b,off,hA,hb,hcs⟩:=Yv.out.rowAt (cells:=jM) (l:=l) rfl rfl (by intro c _;rfl) rfl k tk htk;subst hA;have t0:wr.cell? ⟨b,off+k*4,none⟩=some (.int .i64 (tk.kind:Int)):=hcs 0 _ rfl;have t1:wr.cell? ⟨b,off+k*4+1,none⟩=some (.int .i64 (tk.from_:Int)):=hcs 1 _ rfl;have t2:wr.cell? ⟨b,off+k*4+2,none⟩=some (.int .i64 (tk.at_:Int)):=hcs 2 _ rfl;have t3:wr.cell? ⟨b,off+k*4+3,none⟩=some (.int .i64 (tk.end_:Int)):=hcs 3 _ rfl;have AZ:=kH htk;have hwr:IntKind.i64.wrap ((k:Int)+1)=(k:Int)+1:=IntWalk.i64_in _ (by omega);clear hcs htk;by_cases h4:tk.kind=4
   ·have hki:((tk.kind:Int) !=4)=false:=by simp;omega
    have H4:=kH h4;clear h4;go_wp2_with fail
    have e1:(l.take (k+1)).filter (fun t=>decide (t.kind≠4))=(l.take k).filter fun t=>decide (t.kind≠4):=by
     rw[List.take_add_one,AZ.out,List.filter_append];simp[H4.out]
    go_roundg (gk - 1)
    case measure=>omega
    case rel=>exact⟨k+1,A,n,c,by omega,by simp,by rw[e1];exact HN.out,HR.out,by rw[e1];exact HO.out,HS.out⟩
   ·have hki:((tk.kind:Int) !=4)=true:=by simp;omega
    have H4:=kH h4;have hne:(Value.slice A n c).ownBlock≠some w.heap.size:=HO.out.eu HR.out (by decide)
    have hnb:(Value.slice A n c).ownBlock≠some b:=fun e1=>by
     have h1:=(HO.out.lt _ e1).1;have h2:=(xm.out.lt b rfl).2;omega
    have jb:=kH hne;have kU:=kH hnb;have MX:=HS.out.size;clear h4 hne hnb;go_wp2_with fail
    refine fT (fun w'=>w'.cell? ⟨w.heap.size,1,none⟩=some (.slice A n c)/\w'.cell? ⟨b,off+k*4,none⟩=some (.int .i64 (tk.kind:Int))/\w'.cell? ⟨b,off+k*4+1,none⟩=some (.int .i64 (tk.from_:Int))/\w'.cell? ⟨b,off+k*4+2,none⟩=some (.int .i64 (tk.at_:Int))/\w'.cell? ⟨b,off+k*4+3,none⟩=some (.int .i64 (tk.end_:Int))) [9] [true,true,true,true,true,true,false,false,false,false] (by kernel_rfl) (by kernel_rfl) rfl (by kernel_rfl) ?_;have hS0:wr.drew.cell? ⟨w.heap.size,1,none⟩=some (.slice A n c)/\wr.drew.cell? ⟨b,off+k*4,none⟩=some (.int .i64 (tk.kind:Int))/\wr.drew.cell? ⟨b,off+k*4+1,none⟩=some (.int .i64 (tk.from_:Int))/\wr.drew.cell? ⟨b,off+k*4+2,none⟩=some (.int .i64 (tk.at_:Int))/\wr.drew.cell? ⟨b,off+k*4+3,none⟩=some (.int .i64 (tk.end_:Int)):=⟨hc1,t0,t1,t2,t3⟩
    iterate 6(refine jI rfl hS0 (by intro w' hSw;obtain⟨hs1,hs2,hs3,hs4,hs5⟩:=hSw;go_simp;rfl) ?_;simp only[Act.put,sA,sZ,sC])
    refine kD (w':=wr.drew.alloc (.cells #[.int .i64 (tk.kind:Int),.int .i64 (tk.from_:Int),.int .i64 (tk.at_:Int),.int .i64 (tk.end_:Int)] 186)) rfl (by go_simp;rfl) ?_ ?_
    ·exact fun _=>⟨by go_simp,by go_simp,by go_simp,by go_simp,by go_simp⟩
    simp only[Act.put,sA,sZ,sC];refine uW rfl (jY _ (.tmp 27) (.tmp 32) _ rfl w2.heap.size 186 i0 _ 4 32 Tryz.underlying128 hi0 hz0 hz1 hz2 rfl (.slice A n c) n (((l.take k).filter fun t=>decide (t.kind≠4)).flatMap jM) rfl (HO.out.drew.alloc _) ⟨wr.heap.size,0,none⟩ 1 1 (jM tk) rfl rfl (vI _ _ _ _ _ _ (by go_simp) (by go_simp) (by go_simp) (by go_simp)) (by simp[jM,Value.oneCell']) (by simp only[maxLen];omega) (by omega) (by simp;omega) ?_);intro v3 w3 hown3 hgrow3 yK;obtain⟨A3,c3,hv3,-,-⟩:=hown3.shape;subst hv3;have hz3:=hgrow3.size;simp at hz3
    have q0:w3.cell? ⟨w.heap.size,1,none⟩=some (.slice A n c):=by
     rw[hgrow3.cell_far _ (by simp;omega) (fun e1=>jb.out e1.symm)];go_simp
    have q1:w3.cell? ⟨b,off+k*4,none⟩=some (.int .i64 (tk.kind:Int)):=by
     rw[hgrow3.cell_far _ (by simp;omega) (fun e1=>kU.out e1.symm)];go_simp
    have q2:w3.cell? ⟨b,off+k*4+1,none⟩=some (.int .i64 (tk.from_:Int)):=by
     rw[hgrow3.cell_far _ (by simp;omega) (fun e1=>kU.out e1.symm)];go_simp
    have q3:w3.cell? ⟨b,off+k*4+2,none⟩=some (.int .i64 (tk.at_:Int)):=by
     rw[hgrow3.cell_far _ (by simp;omega) (fun e1=>kU.out e1.symm)];go_simp
    have q4:w3.cell? ⟨b,off+k*4+3,none⟩=some (.int .i64 (tk.end_:Int)):=by
     rw[hgrow3.cell_far _ (by simp;omega) (fun e1=>kU.out e1.symm)];go_simp
    have hB3:=ai.grown (ai.alloc (ai.drew HR.out) (.cells #[.int .i64 (tk.kind:Int),.int .i64 (tk.from_:Int),.int .i64 (tk.at_:Int),.int .i64 (tk.end_:Int)] 186)) hgrow3 (fun e1=>jb.out e1.symm);have q5:=hB3.frozen 1;have HB3:=kH hB3;clear hB3;refine⟨fun _=>⟨q0,q1,q2,q3,q4⟩,?_⟩;simp only[Act.put,sA,sZ,sC];refine kD (w':=w3) rfl (by go_simp;rfl) (fun _=>⟨q0,q1,q2,q3,q4⟩) ?_;simp only[Act.put,sA,sZ,sC];refine kG (w':=w3.setCell ⟨w.heap.size,1,none⟩ (.slice A3 (n+1) c3)) rfl (by go_simp) (by simp) ?_;refine ll ?_;simp only[Act.put];have Ld:=kH hown3;have Lp:=kH hgrow3;clear hown3 hgrow3 yK;go_wp2_with fail
    have e1:(l.take (k+1)).filter (fun t=>decide (t.kind≠4))=((l.take k).filter fun t=>decide (t.kind≠4))++[tk]:=by
     rw[List.take_add_one,AZ.out,List.filter_append];simp[H4.out]
    have hB4:=HB3.out.fU 1 (.slice A3 (n+1) c3);go_roundg (gk - 1)
    case measure=>omega
    case rel=>
     refine⟨k+1,A3,n+1,c3,by omega,by simp,by rw[e1,aaO,<- HN.out];rfl,by simpa using hB4,?_,?_⟩
     ·rw[e1,List.flatMap_append]
      have CW:(Value.slice A3 (n+1) c3).ownBlock≠some w.heap.size:=Ld.out.eu HB3.out (by decide);simpa using Ld.out.setCell CW (p:=⟨w.heap.size,1,none⟩) (.slice A3 (n+1) c3)
     ·exact((HS.out.drew.alloc _).grown Lp.out (fun g hg=>.inr (HO.out.lt g hg).1)).setCell (.inl rfl) _
  ·go_wp2_with fail
   have hke:k=l.length:=by omega
   have hlf:(l.take k).filter (fun t=>decide (t.kind≠4))=iK s.data.toList:=by
    rw[hke,List.take_length];unfold iK;rw[HL.out]
   have hch:=Bi s.data.toList;have hsl:s.data.toList.length=s.size:=bS s;have hn0:(iK s.data.toList).length=n:=by rw[HN.out,hlf]
   have hpos:0<n:=by
    rw[<- hn0]
    cases hq:iK s.data.toList with
    | nil=>rw[hq]at hch;exact hch.elim
    | cons x xs=>simp
   refine bodyPost_ret (v:=.pointer (some ⟨w.heap.size,0,none⟩)) (by simp[results,Tryz.results64,go_sem]) rfl ?_;refine⟨⟨w.heap.size,w.heap.size,s,iK s.data.toList,A,n,c⟩,⟨⟨0,0,[]⟩,.slice none 0 0⟩,rfl,⟨hn0,by show n<=5000;omega,hs,?_,Dj hch,GZ _ hch,KR hch,aaD _⟩,rfl,rfl,rfl,rfl,⟨HR.out,aL.nil _ _ _ _,?_,hpos,⟨List.Pairwise.nil,by simp⟩,by simp⟩,?_⟩
   ·intro t ht
    have:=Fq hch t ht;rw[hsl]at this;exact this
   ·have:=HO.out
    rw[hlf]at this;exact this.mono (by have:=HB2.out.size;omega)
   ·exact HB2.out.trans (HS.out.toBelow (by have:=HB2.out.size;omega) (fun g hg=>by omega))
end Go.Proofs.YtoepemlnlpamlaaGreat
