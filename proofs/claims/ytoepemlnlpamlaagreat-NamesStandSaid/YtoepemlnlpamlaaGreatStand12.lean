/- The law NamesStand holds: for every text and every number the law returns true, and its arguments read as before. No condition. Part 12: Branch StartM Start. -/
import Derived.Test.YtoepemlnlpamlaaGreatStand04
import Derived.Test.YtoepemlnlpamlaaGreatStand11
set_option maxRecDepth 100000
set_option maxHeartbeats 4000000
namespace Go.Proofs.YtoepemlnlpamlaaGreat
open Go.RowKit
theorem iA.store{w w':World}{P:Nat->Prop}{g g':Nat}{t:aa}{a b c d e:Value}(h:iA w P g' t a b c d e)(hk:dB (fun x=>x≠g) w w')(hP:∀x,P x->x≠g)(hne:g'≠g):iA w' P g' t a b c d e:=
 ⟨ak.keep h.1 (hk g' _ hne h.1),aF.keeps (fun x cs hx hc=>hk x cs (hP x hx) hc) _ _ h.2⟩
theorem Ve(E:PE)(hE:E.Ok)(f:Nat)(IH:∀f',f'<=f->xR E f')(v:PV)(w:World)(t:aa)(q:PS)(hpw:PW w E v)(h5:bP E.l v.st≠5)(hr:aO E.bs E.l (f+1) .branch v.st=some ([t],q)):Calls Tryz.prog 135 #[.pointer (some ⟨E.gp,0,none⟩)] w (bK E w v (t,q)):=by
 rw[aO]at hr;obtain⟨x3,q3,hx,hr2⟩:=fE hr;obtain⟨x5,q5,hy,hr3⟩:=fE hr2;have HX:=kH hx;have HY:=kH hy;have HR:=kH hr3;have HA:=kH (IH f (aab _));have QO:=kH h5;obtain⟨b1,hb1⟩:∃x,bM E.bs E.l q5 [101,108,115,101]=x:=⟨_,rfl⟩
 have HB1:=kH hb1;obtain⟨b2,hb2⟩:∃x,bM E.bs E.l (aC E.l q5) [105,102]=x:=⟨_,rfl⟩
 have HB2:=kH hb2;clear hr hx hr2 hy hr3 IH h5 hb1 hb2;have hgl:=hpw.blk.lt;have hk2:w.cell? ⟨E.gp,2,none⟩=some (.int .i64 (v.st.k:Int)):=hpw.blk.cell 2;go_enter Tryz.func135,Tryz.ntmps135
 go_wp2_with fail
 generalize hW1:w.alloc (.cells #[.int .i64 0,.string ⟨#[]⟩,.int .i64 0,.int .i64 0,.slice none 0 0] 24)=W1
 have hb1:Below w.heap.size w W1:=by rw[<- hW1];exact ae _ _
 have eP:ak W1 w.heap.size 24 #[.int .i64 0,.string ⟨#[]⟩,.int .i64 0,.int .i64 0,.slice none 0 0]:=by rw[<- hW1];exact ak.new w _ _
 have hs1:W1.heap.size=w.heap.size+1:=by rw[<- hW1];simp
 have hm1:=PM.of_below (E:=E) (v:=v) hb1;have h1:=hpw.below hb1;have P1:=hm1;have pJ:=kH hs1;have xB:=kH hm1;clear hW1 hs1 hm1 hb1;clear hk2;have QD:Hid (v.st=v.st):=kH rfl;refine(vJ E hE v _ h1 QD.out QO.out).mono ?_;rintro e w2 ⟨rfl,v2,hv2,h2,hm2⟩;have iw:=kH hv2;have hR2:=hm2.blk h1 eP;have P2:=P1.trans hm2;clear hv2 hm2;have hcall:=HA.out.expr 1 v2 w2 x3 q3 h2 (by omega) (by omega) (by rw[iw.out];exact HX.out);have HC:=kH hcall;clear hcall;go_wp2_with fail
 refine(HC.out).mono ?_;rintro e w3 ⟨k3,t3,a3,z3,A3,n3,c3,rfl,kK,v3,hv3,h3,eH⟩;try dsimp only at hv3 kK
 have fU:=kH hv3;have dD:=eH.blk h2 hR2;have P3:=P2.trans eH;replace kK:=aF.weak (Q:=fun g=>w.heap.size+1<=g) (fun g _ hg=>aac hR2.lt hg) _ _ kK
 clear hv3 eH;go_wp2_with fail
 generalize l9:w3.alloc (.cells #[.int .i64 k3,.string t3,.int .i64 a3,.int .i64 z3,.slice A3 n3 c3] 24)=w4
 have hb4:Below w3.heap.size w3 w4:=by rw[<- l9];exact ae _ _
 have X3:iA w4 _ w3.heap.size _ (.int .i64 k3) (.string t3) (.int .i64 a3) (.int .i64 z3) (.slice A3 n3 c3):=⟨by rw[<- l9];exact ak.new w3 _ _,aF.keeps (dB.of_below hb4) _ _ kK⟩
 have hs4:w4.heap.size=w3.heap.size+1:=by rw[<- l9];simp
 have h4:=h3.below hb4;have fB:=dD.below hb4 dD.lt;have P4:=P3.trans (PM.of_below hb4);obtain⟨v4,hv4⟩:∃vv,vv=v3:=⟨_,rfl⟩
 have iY:=fU;rw[<- hv4]at h4 P4 iY;try rw[<- hs4]
 clear hv4 l9 kK hs4;have hcall:=HA.out.block v4 w4 x5 q5 h4 (by rw[iY.out];exact HY.out);have ug:=kH hcall;clear hcall;refine(ug.out).mono ?_;rintro e w5 ⟨k5,t5,a5,z5,A5,n5,c5,rfl,jH,v5,hv5,h5,iH⟩;try dsimp only at hv5 jH
 have HV5:=kH hv5;have fK:=iH.blk h4 fB;have P5:=P4.trans iH;replace jH:=aF.weak (Q:=fun g=>w.heap.size+1<=g) (fun g _ hg=>aac fB.lt hg) _ _ jH
 replace X3:=X3.pm iH h4
 clear hv5 iH;have hk2:w5.cell? ⟨E.gp,2,none⟩=some (.int .i64 (v5.st.k:Int)):=h5.blk.cell 2;have hgl5:=h5.blk.lt;go_wp2_with fail
 generalize tO:w5.alloc (.cells #[.int .i64 k5,.string t5,.int .i64 a5,.int .i64 z5,.slice A5 n5 c5] 24)=w6
 have hb6:Below w5.heap.size w5 w6:=by rw[<- tO];exact ae _ _
 have X5:iA w6 _ w5.heap.size _ (.int .i64 k5) (.string t5) (.int .i64 a5) (.int .i64 z5) (.slice A5 n5 c5):=⟨by rw[<- tO];exact ak.new w5 _ _,aF.keeps (dB.of_below hb6) _ _ jH⟩
 have hs6:w6.heap.size=w5.heap.size+1:=by rw[<- tO];simp
 have h6:=h5.below hb6;have fI:=fK.below hb6 fK.lt;have P6:=P5.trans (PM.of_below hb6);replace X3:=X3.below hb6
 obtain⟨v6,hv6⟩:∃vv,vv=v5:=⟨_,rfl⟩
 have lU:=HV5;rw[<- hv6]at h6 P6 lU;try rw[<- hs6]
 clear hv6 tO jH hs6;clear hk2;refine(iM E hE v6 _ h6 v5.st.k 0 [] (w.heap.size+1)).mono ?_;rintro e w7 ⟨rfl,dQ,lQ⟩;have h7:=h6.below dQ;have fH:=fI.below dQ fI.lt;have P7:=P6.trans (PM.of_below dQ);replace X3:=(X3.below dQ).weak (Q:=fun g=>w.heap.size+1<=g/\g≠w7.heap.size) (fun g _ hp=>⟨hp,by omega⟩)
 replace X5:=(X5.below dQ).weak (Q:=fun g=>w.heap.size+1<=g/\g≠w7.heap.size) (fun g _ hp=>⟨hp,by omega⟩)
 have hg3:=X3.1.lt;have hg5:=X5.1.lt;have hlt7:=fH.lt;clear dQ;go_wp2_with fail
 generalize qd:w7.alloc (.cells #[.int .i64 0,.string (bI []),.int .i64 (bW E.l v6.st v5.st.k []),.int .i64 (v6.st.last:Int),.slice none 0 0] 24)=w8
 have fJ:Below w7.heap.size w7 w8:=by rw[<- qd];exact ae _ _
 have X8:iA w8 _ w7.heap.size (aI E.l v6.st v5.st.k 0 [] []) (.int .i64 0) (.string (bI [])) (.int .i64 (bW E.l v6.st v5.st.k [])) (.int .i64 (v6.st.last:Int)) (.slice none 0 0):=⟨by rw[<- qd];exact ak.new w7 _ _,aF.keeps (dB.of_below fJ) _ _ lQ⟩
 have h8:=h7.below fJ;have eB:=fH.below fJ fH.lt;have P8:=P7.trans (PM.of_below fJ);replace X3:=X3.below fJ
 replace X5:=X5.below fJ
 obtain⟨v8,eX⟩:∃vv,vv=v6:=⟨_,rfl⟩
 have ic:=lU;rw[<- eX]at h8 P8 ic;clear eX qd lQ;cases b1
 case true=>
  refine(pg E hE v8 _ h8 ic.out [101,108,115,101] HB1.out).mono ?_;rintro e w9 ⟨rfl,v9,iU,h9,gH⟩;have kL:=kH iU;have fA:=gH.blk h8 eB;have P9:=P8.trans gH;replace X3:=X3.pm gH h8
  replace X5:=X5.pm gH h8
  replace X8:=X8.pm gH h8
  clear iU gH;go_wp2_with fail
  refine(BA E hE v9 _ h9 kL.out [105,102] HB2.out).mono ?_;rintro e bJ ⟨rfl,v10,gL,h10,fw⟩;have jf:=kH gL;have dV:=fw.blk h9 fA;have jZ:=P9.trans fw;replace X3:=X3.pm fw h9
  replace X5:=X5.pm fw h9
  replace X8:=X8.pm fw h9
  clear gL fw;cases b2
  case true=>
   obtain⟨x31,q31,hz,hrq⟩:∃x q1,aO E.bs E.l f .branch (aC E.l q5)=some ([x],q1)/\(t,q)=(aI E.l q1 v.st.k 14 [] [x3,x5,x],q1):=by
    have:=HR.out;rw[HB1.out,if_pos rfl,HB2.out,if_pos rfl]at this;obtain⟨x,p,h1,h2⟩:=fE this;simp at h2;exact⟨x,p,h1,by rw[<- h2.1,<- h2.2]⟩
   have HZ:=kH hz;have aV:=kH hrq;clear hz hrq HR;have La:=kH (HA.out.branch v10 bJ x31 q31 h10 (by rw[jf.out];exact Ga HB2.out) (by rw[jf.out];exact HZ.out));have hg10:=X8.1.lt;go_wp2_with fail
   refine(La.out).mono ?_;rintro e Cj ⟨rO,t31,a31,z31,rT,n31,c31,rfl,mO,v31,hv31,h31,ng⟩;try dsimp only at hv31 mO
   have DI:=kH hv31;have wS:=ng.blk h10 dV;have KO:=jZ.trans ng;replace mO:=aF.weak (Q:=fun g=>w.heap.size+1<=g/\g≠w7.heap.size) (fun g _ hg=>⟨aac dV.lt hg,by omega⟩) _ _ mO
   have o9:=ng.blk h10 X8.1;replace X3:=X3.pm ng h10
   replace X5:=X5.pm ng h10
   obtain⟨⟨q0,q1',q2',q3,q4⟩,Gx,Gw,Gv,Gu,Gt⟩:=o9.five;have Dk:=o9.lt;clear hv31 ng X8;obtain⟨⟨OD,OC,OB,OA,Oz⟩,Oy,Ox,Ow,Ov,Ou⟩:=X3.1.five;have Ot:=X3.1.lt;obtain⟨⟨IE,IB,Iz,Iw,Ir⟩,Ip,Im,Ik,Ii,Ig⟩:=X5.1.five;have Ic:=X5.1.lt;go_wp2_with fail
   clear OD OC OB OA Oz Oy Ox Ow Ov Ou Ot;clear IE IB Iz Iw Ir Ip Im Ik Ii Ig Ic;obtain⟨h32,zi,wU,p9⟩:=vI h31 KO o9 (by omega) (.int .i64 rO) (.string t31) (.int .i64 a31) (.int .i64 z31) (.slice rT n31 c31);have vg:=wS.keep (p9 w.heap.size _ (by omega) wS);have oU:iA _ _ _ _ (.int .i64 rO) (.string t31) (.int .i64 a31) (.int .i64 z31) (.slice rT n31 c31):=⟨wU,aF.keeps (w':=bZ Cj w7.heap.size (.int .i64 rO) (.string t31) (.int .i64 a31) (.int .i64 z31) (.slice rT n31 c31)) (fun g cs hP hc=>p9 g cs hP.2 hc) _ _ mO⟩
   replace X3:=(X3.store p9 (fun x hx=>hx.2) (by omega)).weak (Q:=fun g=>w.heap.size+1<=g) (fun g _ hp=>hp.1)
   replace X5:=(X5.store p9 (fun x hx=>hx.2) (by omega)).weak (Q:=fun g=>w.heap.size+1<=g) (fun g _ hp=>hp.1)
   replace oU:=oU.weak (Q:=fun g=>w.heap.size+1<=g) (fun g _ hp=>hp.1)
   obtain⟨w32,hw32⟩:∃W,bZ Cj w7.heap.size (.int .i64 rO) (.string t31) (.int .i64 a31) (.int .i64 z31) (.slice rT n31 c31)=W:=⟨_,rfl⟩
   have O9:w32.heap.size=Cj.heap.size:=by rw[<- hw32];simp[bZ]
   rw[hw32]at h32 zi vg oU X3 X5;unfold bZ at hw32;rw[hw32,<- O9];obtain⟨v32,hv32⟩:∃vv,vv=v31:=⟨_,rfl⟩
   have xc:=DI;rw[<- hv32]at h32 zi xc;clear hv32 wU p9 mO o9 q0 q1' q2' q3 q4 Gx Gw Gv Gu Gt Dk hw32 O9;have QK:=kH (ym X3.2 X5.2 oU.2 (by have:=vg.lt;omega));generalize PN:w32.alloc (.cells #[.int .i64 k3,.string t3,.int .i64 a3,.int .i64 z3,.slice A3 n3 c3,.int .i64 k5,.string t5,.int .i64 a5,.int .i64 z5,.slice A5 n5 c5,.int .i64 rO,.string t31,.int .i64 a31,.int .i64 z31,.slice rT n31 c31] 24)=uQ at QK⊢
   have IY:Below w32.heap.size w32 uQ:=by rw[<- PN];exact ae _ _
   have Cv:=h32.below IY;have tT:=vg.below IY vg.lt;have FI:=zi.trans (PM.of_below IY);obtain⟨v33,wK⟩:∃vv,vv=v32:=⟨_,rfl⟩
   have Be:=xc;rw[<- wK]at Cv FI Be;clear wK PN;refine(dY E hE v33 _ Cv v.st.k 14 [] (w.heap.size+1) (some ⟨w32.heap.size,0,none⟩) 3 3 [x3,x5,x31] QK.out).mono ?_;rintro e NP ⟨rfl,oJ,PU⟩;have AA:=Cv.below oJ;have wR:=tT.below oJ tT.lt;obtain⟨⟨r0,r1,r2,r3,r4⟩,g0,g1,g2,g3,g4⟩:=wR.five;go_wp2_with fail
   have bC:=kH (bO (v:=v) AA (FI.trans (PM.of_below oJ)) rfl wR hgl PU);clear PU;refine bodyPost_ret (v:=.agg #[.int .i64 14,.string (bI []),.int .i64 (bW E.l v33.st v.st.k [x3,x5,x31]),.int .i64 (v33.st.last:Int),.slice (some ⟨w32.heap.size,0,none⟩) 3 3]) (by simp[results,Tryz.results135,go_sem,r0,r1,r2,r3,r4]) rfl ?_;exact Eq.mp (congrArg (fun r=>bK E w v r _ _) (show(aI E.l v33.st v.st.k 14 [] [x3,x5,x31],v33.st)=_ by rw[aV.out,Be.out])) bC.out
  case false=>
   obtain⟨x31,q31,hz,hrq⟩:∃x q1,aO E.bs E.l f .block (aC E.l q5)=some ([x],q1)/\(t,q)=(aI E.l q1 v.st.k 14 [] [x3,x5,x],q1):=by
    have:=HR.out;rw[HB1.out,if_pos rfl,HB2.out,if_neg (by simp)]at this;obtain⟨x,p,h1,h2⟩:=fE this;simp at h2;exact⟨x,p,h1,by rw[<- h2.1,<- h2.2]⟩
   have HZ:=kH hz;have aV:=kH hrq;clear hz hrq HR;have La:=kH (HA.out.block v10 bJ x31 q31 h10 (by rw[jf.out];exact HZ.out));have hg10:=X8.1.lt;go_wp2_with fail
   refine(La.out).mono ?_;rintro e Cj ⟨rO,t31,a31,z31,rT,n31,c31,rfl,mO,v31,hv31,h31,ng⟩;try dsimp only at hv31 mO
   have DI:=kH hv31;have wS:=ng.blk h10 dV;have KO:=jZ.trans ng;replace mO:=aF.weak (Q:=fun g=>w.heap.size+1<=g/\g≠w7.heap.size) (fun g _ hg=>⟨aac dV.lt hg,by omega⟩) _ _ mO
   have o9:=ng.blk h10 X8.1;replace X3:=X3.pm ng h10
   replace X5:=X5.pm ng h10
   obtain⟨⟨q0,q1',q2',q3,q4⟩,Gx,Gw,Gv,Gu,Gt⟩:=o9.five;have Dk:=o9.lt;clear hv31 ng X8;obtain⟨⟨OD,OC,OB,OA,Oz⟩,Oy,Ox,Ow,Ov,Ou⟩:=X3.1.five;have Ot:=X3.1.lt;obtain⟨⟨IE,IB,Iz,Iw,Ir⟩,Ip,Im,Ik,Ii,Ig⟩:=X5.1.five;have Ic:=X5.1.lt;go_wp2_with fail
   clear OD OC OB OA Oz Oy Ox Ow Ov Ou Ot;clear IE IB Iz Iw Ir Ip Im Ik Ii Ig Ic;obtain⟨h32,zi,wU,p9⟩:=vI h31 KO o9 (by omega) (.int .i64 rO) (.string t31) (.int .i64 a31) (.int .i64 z31) (.slice rT n31 c31);have vg:=wS.keep (p9 w.heap.size _ (by omega) wS);have oU:iA _ _ _ _ (.int .i64 rO) (.string t31) (.int .i64 a31) (.int .i64 z31) (.slice rT n31 c31):=⟨wU,aF.keeps (w':=bZ Cj w7.heap.size (.int .i64 rO) (.string t31) (.int .i64 a31) (.int .i64 z31) (.slice rT n31 c31)) (fun g cs hP hc=>p9 g cs hP.2 hc) _ _ mO⟩
   replace X3:=(X3.store p9 (fun x hx=>hx.2) (by omega)).weak (Q:=fun g=>w.heap.size+1<=g) (fun g _ hp=>hp.1)
   replace X5:=(X5.store p9 (fun x hx=>hx.2) (by omega)).weak (Q:=fun g=>w.heap.size+1<=g) (fun g _ hp=>hp.1)
   replace oU:=oU.weak (Q:=fun g=>w.heap.size+1<=g) (fun g _ hp=>hp.1)
   obtain⟨w32,hw32⟩:∃W,bZ Cj w7.heap.size (.int .i64 rO) (.string t31) (.int .i64 a31) (.int .i64 z31) (.slice rT n31 c31)=W:=⟨_,rfl⟩
   have O9:w32.heap.size=Cj.heap.size:=by rw[<- hw32];simp[bZ]
   rw[hw32]at h32 zi vg oU X3 X5;unfold bZ at hw32;rw[hw32,<- O9];obtain⟨v32,hv32⟩:∃vv,vv=v31:=⟨_,rfl⟩
   have xc:=DI;rw[<- hv32]at h32 zi xc;clear hv32 wU p9 mO o9 q0 q1' q2' q3 q4 Gx Gw Gv Gu Gt Dk hw32 O9;have QK:=kH (ym X3.2 X5.2 oU.2 (by have:=vg.lt;omega));generalize PN:w32.alloc (.cells #[.int .i64 k3,.string t3,.int .i64 a3,.int .i64 z3,.slice A3 n3 c3,.int .i64 k5,.string t5,.int .i64 a5,.int .i64 z5,.slice A5 n5 c5,.int .i64 rO,.string t31,.int .i64 a31,.int .i64 z31,.slice rT n31 c31] 24)=uQ at QK⊢
   have IY:Below w32.heap.size w32 uQ:=by rw[<- PN];exact ae _ _
   have Cv:=h32.below IY;have tT:=vg.below IY vg.lt;have FI:=zi.trans (PM.of_below IY);obtain⟨v33,wK⟩:∃vv,vv=v32:=⟨_,rfl⟩
   have Be:=xc;rw[<- wK]at Cv FI Be;clear wK PN;refine(dY E hE v33 _ Cv v.st.k 14 [] (w.heap.size+1) (some ⟨w32.heap.size,0,none⟩) 3 3 [x3,x5,x31] QK.out).mono ?_;rintro e NP ⟨rfl,oJ,PU⟩;have AA:=Cv.below oJ;have wR:=tT.below oJ tT.lt;obtain⟨⟨r0,r1,r2,r3,r4⟩,g0,g1,g2,g3,g4⟩:=wR.five;go_wp2_with fail
   have bC:=kH (bO (v:=v) AA (FI.trans (PM.of_below oJ)) rfl wR hgl PU);clear PU;refine bodyPost_ret (v:=.agg #[.int .i64 14,.string (bI []),.int .i64 (bW E.l v33.st v.st.k [x3,x5,x31]),.int .i64 (v33.st.last:Int),.slice (some ⟨w32.heap.size,0,none⟩) 3 3]) (by simp[results,Tryz.results135,go_sem,r0,r1,r2,r3,r4]) rfl ?_;exact Eq.mp (congrArg (fun r=>bK E w v r _ _) (show(aI E.l v33.st v.st.k 14 [] [x3,x5,x31],v33.st)=_ by rw[aV.out,Be.out])) bC.out
 have aV:Hid ((t,q)=(aI E.l q5 v.st.k 14 [] [x3,x5,aI E.l v6.st v5.st.k 0 [] []],q5)):=kH (by
  have:=HR.out;rw[HB1.out,if_neg (by simp)]at this;simp at this
  rw[lU.out,HV5.out,<- this.1,<- this.2])
 clear HR;refine(qJ E hE v8 _ h8 ic.out [101,108,115,101] HB1.out).mono ?_;rintro e w9 ⟨rfl,v9,iU,h9,gH⟩;have kL:=kH iU;have fA:=gH.blk h8 eB;have P9:=P8.trans gH;replace X3:=X3.pm gH h8
 replace X5:=X5.pm gH h8
 replace X8:=X8.pm gH h8
 clear iU gH;obtain⟨⟨OD,OC,OB,OA,Oz⟩,Oy,Ox,Ow,Ov,Ou⟩:=X3.1.five;have Ot:=X3.1.lt;obtain⟨⟨IE,IB,Iz,Iw,Ir⟩,Ip,Im,Ik,Ii,Ig⟩:=X5.1.five;have Ic:=X5.1.lt;obtain⟨⟨IC,IA,Iy,Iu,Iq⟩,Io,Il,Ij,Ih,Ie⟩:=X8.1.five;have Ib:=X8.1.lt;go_wp2_with fail
 clear OD OC OB OA Oz Oy Ox Ow Ov Ou Ot;clear IE IB Iz Iw Ir Ip Im Ik Ii Ig Ic;clear IC IA Iy Iu Iq Io Il Ij Ih Ie Ib;have rF:=kH (ym (aF.weak (Q:=fun g=>w.heap.size+1<=g) (fun g _ hp=>hp.1) _ _ X3.2) (aF.weak (Q:=fun g=>w.heap.size+1<=g) (fun g _ hp=>hp.1) _ _ X5.2) X8.2 (by have:=fA.lt;omega));generalize Ff:w9.alloc (.cells #[.int .i64 k3,.string t3,.int .i64 a3,.int .i64 z3,.slice A3 n3 c3,.int .i64 k5,.string t5,.int .i64 a5,.int .i64 z5,.slice A5 n5 c5,.int .i64 0,.string (bI []),.int .i64 (bW E.l v6.st v5.st.k []),.int .i64 (v6.st.last:Int),.slice none 0 0] 24)=bJ at rF⊢
 have jW:Below w9.heap.size w9 bJ:=by rw[<- Ff];exact ae _ _
 have h10:=h9.below jW;have dV:=fA.below jW fA.lt;have jZ:=P9.trans (PM.of_below jW);obtain⟨v10,gL⟩:∃vv,vv=v9:=⟨_,rfl⟩
 have jf:=kL;rw[<- gL]at h10 jZ jf;clear gL Ff;refine(dY E hE v10 _ h10 v.st.k 14 [] (w.heap.size+1) (some ⟨w9.heap.size,0,none⟩) 3 3 [x3,x5,aI E.l v6.st v5.st.k 0 [] []] rF.out).mono ?_;rintro e jF ⟨rfl,jC,nY⟩;have h11:=h10.below jC;have jq:=dV.below jC dV.lt;obtain⟨⟨r0,r1,r2,r3,r4⟩,g0,g1,g2,g3,g4⟩:=jq.five;go_wp2_with fail
 have bC:=kH (bO (v:=v) h11 (jZ.trans (PM.of_below jC)) rfl jq hgl nY);clear nY;refine bodyPost_ret (v:=.agg #[.int .i64 14,.string (bI []),.int .i64 (bW E.l v10.st v.st.k [x3,x5,aI E.l v6.st v5.st.k 0 [] []]),.int .i64 (v10.st.last:Int),.slice (some ⟨w9.heap.size,0,none⟩) 3 3]) (by simp[results,Tryz.results135,go_sem,r0,r1,r2,r3,r4]) rfl ?_;exact Eq.mp (congrArg (fun r=>bK E w v r _ _) (show(aI E.l v10.st v.st.k 14 [] [x3,x5,aI E.l v6.st v5.st.k 0 [] []],v10.st)=_ by rw[aV.out,jf.out])) bC.out
theorem Zk(E:PE)(hE:E.Ok):∀(f:Nat),∀f',f'<=f->xR E f':=by
 have h0:xR E 0:=by
  constructor<;> · intros;rename_i h;simp[aO]at h
 intro f
 induction f with
 | zero=>
  intro f' hf;have:f'=0:=by omega
  subst this;exact h0
 | succ f ih=>
  intro f' hf;by_cases he:f'<=f
  ·exact ih f' he
  ·have:f'=f+1:=by omega
   subst this
   exact {
    expr:=fun lv v w t q hpw h1 h7 hr=>by
     by_cases h3:lv=3
     ·subst h3
      exact Xb E hE f ih v w t q hpw hr
     ·by_cases RX:lv=7
      ·subst RX
       exact Xa E hE f ih v w t q hpw hr
      ·exact WY E hE f ih lv h3 RX h1 h7 v w t q hpw hr
    operand:=fun v w t q hpw hr=>Q9 E hE f ih v w t q hpw hr
    args:=fun v w kids q hpw h5 hr=>Ny E hE f ih v w kids q hpw h5 hr
    place:=fun v w t q hpw hr=>VX E hE f ih v w t q hpw hr
    stmt:=fun v w t q hpw hr=>X9 E hE f ih v w t q hpw hr
    block:=fun v w t q hpw hr=>Xh E hE f ih v w t q hpw hr
    branch:=fun v w t q hpw h5 hr=>Ve E hE f ih v w t q hpw h5 hr }
theorem answ(E:PE)(hE:E.Ok)(f:Nat):xR E f:=Zk E hE f f (aab _)
end Go.Proofs.YtoepemlnlpamlaaGreat
namespace Go.Proofs.YtoepemlnlpamlaaGreat
def rJ(n:Nat):Nat->List jP->Prop
 | _,[]=>False
 | lo,t::ts=>lo<=t.at_/\t.from_<=t.at_/\t.at_<=t.end_/\t.end_<=n/\((ts=[]/\t.kind=5/\t.at_=t.end_)\/(t.kind<=4/\rJ n t.end_ ts))
theorem rJ.mono{n:Nat}{lo lo':Nat}(h:lo'<=lo):∀{l:List jP},rJ n lo l->rJ n lo' l
 | [],hc=>hc
 | _::_,hc=>⟨aac h hc.1,hc.2⟩
theorem JA{s:bE}:∀(f a:Nat),a<=s.length->s.length<f+a->rJ s.length a (ui s f a):=by
 intro f
 induction f with
 | zero=>intro a h1 h2;omega
 | succ f ih=>
  intro a h1 h2;obtain⟨k1,hk1⟩:∃x,kN s (s.length+1) a=x:=⟨_,rfl⟩
  have hs:=CX (s:=s) (s.length+1) a h1 (by omega);rw[hk1]at hs;rw[ui];simp only[hk1];split
  ·rename_i h
   have:k1=s.length:=by omega
   exact⟨hs.1,hs.1,aab _,by simp only;omega,.inl ⟨rfl,rfl,rfl⟩⟩
  ·rename_i h
   have hlt:k1<s.length:=by omega
   have ht:=BP hlt (hs.2.2 hlt).1 (hs.2.2 hlt).2;have e1:=hs.1;have e2:=ht.1;exact⟨hs.1,hs.1,Nat.le_of_lt ht.1,ht.2.1,.inr ⟨ht.2.2,ih _ ht.2.1 (by show s.length<f+(il s k1).2;omega)⟩⟩
theorem Fv{n:Nat}:∀{l:List jP}{lo:Nat},rJ n lo l->rJ n lo (l.filter fun t=>decide (t.kind≠4))
 | [],_,h=>h
 | t::ts,lo,h=>by
  obtain⟨h1,h2,h3,h4,h5⟩:=h;rcases h5 with⟨rfl,h6,h7⟩| ⟨h6,h7⟩
  ·have:(List.filter (fun t:jP=>decide (t.kind≠4)) [t])=[t]:=by simp[h6]
   rw[this];exact⟨h1,h2,h3,h4,.inl ⟨rfl,h6,h7⟩⟩
  ·have hr:=Fv h7
   by_cases hk:t.kind=4
   ·rw[List.filter_cons_of_neg (by simp[hk])]
    exact hr.mono (by omega)
   ·rw[List.filter_cons_of_pos (by simp[hk])]
    exact⟨h1,h2,h3,h4,.inr ⟨h6,hr⟩⟩
theorem BQ(s:bE):rJ s.length 0 (mG s):=Fv (JA _ _ (Nat.zero_le _) (by omega))
theorem zT(t:jP)(ts:List jP)(k:Nat):iG (t::ts) (k+1)=iG ts k:=by simp[iG]
theorem CW(t:jP)(ts:List jP):iG (t::ts) 0=t:=by simp[iG]
theorem DC{n:Nat}:∀{l:List jP}{lo:Nat},rJ n lo l->nL l
 | [],_,h=>h.elim
 | t::ts,lo,h=>by
  intro k hk hne;obtain⟨_,_,_,_,h5⟩:=h
  cases k with
  | zero=>
   rw[CW]at hne;rcases h5 with⟨_,h6,_⟩| ⟨_,h7⟩
   ·exact absurd h6 hne
   ·cases ts with
    | nil=>exact h7.elim
    | cons _ _=>simp
  | succ k=>
   rw[zT]at hne;rcases h5 with⟨rfl,_,_⟩| ⟨_,h7⟩
   ·simp at hk
   ·have:=DC h7 k (by simpa using hk) hne
    simp only[aao];omega
theorem KH{n:Nat}:∀{l:List jP}{lo:Nat},rJ n lo l->∀k,(iG l k).kind=5->(iG l k).at_=(iG l k).end_
 | [],_,h,_,_=>h.elim
 | t::ts,lo,h,k,hk=>by
  obtain⟨_,_,_,_,h5⟩:=h
  cases k with
  | zero=>
   rw[CW]at hk⊢;rcases h5 with⟨_,_,h7⟩| ⟨h6,_⟩
   ·exact h7
   ·omega
  | succ k=>
   rw[zT]at hk⊢;rcases h5 with⟨rfl,_,_⟩| ⟨_,h7⟩
   ·simp[iG,XY]
   ·exact KH h7 k hk
theorem G6{n:Nat}{l:List jP}{lo:Nat}(s:bE)(h:rJ n lo l):pM s l:=by
 intro k hk;have:=KH h k hk;unfold bR Bp tC;rw[this];simp
theorem KG{n:Nat}:∀{l:List jP}{lo:Nat},rJ n lo l->∀k,k+1<l.length->(iG l k).at_<=(iG l (k+1)).at_
 | [],_,h,_,_=>h.elim
 | t::ts,lo,h,k,hk=>by
  obtain⟨_,_,h3,_,h5⟩:=h;rcases h5 with⟨rfl,_,_⟩| ⟨_,h7⟩
  ·simp at hk
  ·cases k with
   | zero=>
    cases ts with
    | nil=>exact h7.elim
    | cons u us=>
     rw[CW,zT,CW];have:=h7.1;omega
   | succ k=>
    rw[zT,zT];exact KG h7 k (by simpa using hk)
theorem FC{n:Nat}:∀{l:List jP}{lo:Nat},rJ n lo l->∀t∈l,t.from_<=t.at_/\t.at_<=t.end_/\t.end_<=n/\t.kind<=5
 | [],_,h,_,_=>h.elim
 | t::ts,lo,h,u,hu=>by
  obtain⟨_,h2,h3,h4,h5⟩:=h;rcases List.mem_cons.1 hu with rfl|hu
  ·refine⟨h2,h3,h4,?_⟩
   rcases h5 with⟨_,h6,_⟩| ⟨h6,_⟩ <;>omega
  ·rcases h5 with⟨rfl,_,_⟩| ⟨_,h7⟩
   ·cases hu
   ·exact FC h7 u hu
open Go.RowKit
theorem Yf{s:bE}:∀(f a:Nat),a<=s.length->(ui s f a).length<=s.length - a+1:=by
 intro f
 induction f with
 | zero=>intro a h1;simp[ui]
 | succ f ih=>
  intro a h1;obtain⟨k1,hk1⟩:∃x,kN s (s.length+1) a=x:=⟨_,rfl⟩
  have hs:=CX (s:=s) (s.length+1) a h1 (by omega);rw[hk1]at hs;rw[ui];simp only[hk1];split
  ·simp
  ·rename_i h
   have hlt:k1<s.length:=by omega
   have ht:=BP hlt (hs.2.2 hlt).1 (hs.2.2 hlt).2;have e1:=hs.1;have e2:=ht.1;have:=ih _ ht.2.1;simp only[aao];omega
theorem xV(s:bE):(qV s).length<=s.length+1:=by
 have:=Yf (s:=s) (s.length+1) 0 (Nat.zero_le _);unfold qV;omega
theorem Ma(s:ByteArray)(w:World)(hs:s.size<=4096):Calls Tryz.prog 64 #[.string s] w fun e w'=> ∃E v,e= .returned (.pointer (some ⟨E.gp,0,none⟩))/\E.Ok/\E.bs=s.data.toList/\E.l=mG s.data.toList/\E.lo=w.heap.size/\v.st=⟨0,0,[]⟩/\PW w' E v/\Below w.heap.size w w':=by
 obtain⟨i0,hi0,hz0,hz1,hz2⟩:=info_parts NU;go_enter Tryz.func64,Tryz.ntmps64
 go_wp2_with fail
 generalize hW1:w.alloc (.cells #[.string s,.slice none 0 0,.int .i64 0,.int .i64 0,.slice none 0 0] 130)=W1
 have hb1:Below w.heap.size w W1:=by rw[<- hW1];exact ae _ _
 have eP:ak W1 w.heap.size 130 #[.string s,.slice none 0 0,.int .i64 0,.int .i64 0,.slice none 0 0]:=by rw[<- hW1];exact ak.new w _ _
 have hs1:W1.heap.size=w.heap.size+1:=by rw[<- hW1];simp
 refine(Qu s W1 hs).mono ?_;rintro e w2 ⟨vl,rfl,hO2,hb2⟩;have hR2:=eP.below hb2 eP.lt;have lX:=hb1.trans (hb2.mono hb1.size);obtain⟨l,hl⟩:∃l,qV s.data.toList=l:=⟨_,rfl⟩
 rw[hl]at hO2;obtain⟨Al,cl,rfl,-,-⟩:=hO2.shape;have xx:=kH hO2;have HR2:=kH hR2;have HB2:=kH lX;have HL:=kH hl
 have hll:l.length<=4097:=by
  have:=xV s.data.toList;rw[HL.out,dm]at this;omega
 have hlt2:=hR2.lt;clear hW1 hb1 eP hs1 hb2 hO2 hR2 lX hl;go_wp2_with fail
 go_loopg [6] l.length (fun gk s5 wr=> ∃(k:Nat) (A:Option Addr) (n c:Nat),k+gk=l.length/\s5= .int .i64 (k:Int)/\n=((l.take k).filter fun t=>decide (t.kind≠4)).length/\ak wr w.heap.size 130 #[.string s,.slice A n c,.int .i64 0,.int .i64 0,.slice none 0 0]/\aP wr w2.heap.size 186 4 (.slice A n c) n (((l.take k).filter fun t=>decide (t.kind≠4)).flatMap kg)/\aA (fun g=>g=w.heap.size) w2 wr)
 case atStart=>exact⟨0,none,0,0,by omega,rfl,rfl,HR2.out,aP.nil _ _ _ _,aA.refl _ _⟩
 case round=>
  obtain⟨k,A,n,c,hk,rfl,hn,hR,hO,hS⟩:=hrel;have HN:=kH hn;have HR:=kH hR;have HO:=kH hO;have HS:=kH hS;have hgr:=hR.lt;have hc1:wr.cell? ⟨w.heap.size,1,none⟩=some (.slice A n c):=hR.cell 1;have hfz:=hR.frozen 1;have WM:=xx.out.since hS (fun g hg e1=>xx.out.fe HR2.out (by decide) (by rw[hg,e1]));have XI:=kH WM;have hnk:n<=k:=by rw[hn];exact aac (List.length_filter_le _ _) (by simp;omega)
  clear hn hR hO hS WM;by_cases hkl:k<l.length
  ·obtain⟨tk,htk⟩:∃x,l[k]? =some x:=⟨_,aaf hkl⟩
   obtain⟨b,off,hA,hb,hcs⟩:=XI.out.rowAt (cells:=kg) (l:=l) rfl rfl (by intro c _;rfl) rfl k tk htk;subst hA;have t0:wr.cell? ⟨b,off+k*4,none⟩=some (.int .i64 (tk.kind:Int)):=hcs 0 _ rfl;have t1:wr.cell? ⟨b,off+k*4+1,none⟩=some (.int .i64 (tk.from_:Int)):=hcs 1 _ rfl;have t2:wr.cell? ⟨b,off+k*4+2,none⟩=some (.int .i64 (tk.at_:Int)):=hcs 2 _ rfl;have t3:wr.cell? ⟨b,off+k*4+3,none⟩=some (.int .i64 (tk.end_:Int)):=hcs 3 _ rfl;have uI:=kH htk;have hwr:IntKind.i64.wrap ((k:Int)+1)=(k:Int)+1:=IntWalk.i64_in _ (by omega);clear hcs htk;by_cases h4:tk.kind=4
   ·have hki:((tk.kind:Int) !=4)=false:=by simp;omega
    have H4:=kH h4;clear h4;go_wp2_with fail
    have e1:(l.take (k+1)).filter (fun t=>decide (t.kind≠4))=(l.take k).filter fun t=>decide (t.kind≠4):=by
     rw[List.take_add_one,uI.out,List.filter_append];simp[H4.out]
    go_roundg (gk - 1)
    case measure=>omega
    case rel=>exact⟨k+1,A,n,c,by omega,by simp,by rw[e1];exact HN.out,HR.out,by rw[e1];exact HO.out,HS.out⟩
   ·have hki:((tk.kind:Int) !=4)=true:=by simp;omega
    have H4:=kH h4;have hne:(Value.slice A n c).ownBlock≠some w.heap.size:=HO.out.fe HR.out (by decide)
    have hnb:(Value.slice A n c).ownBlock≠some b:=fun e1=>by
     have h1:=(HO.out.lt _ e1).1;have h2:=(xx.out.lt b rfl).2;omega
    have jv:=kH hne;have lV:=kH hnb;have Mt:=HS.out.size;clear h4 hne hnb;go_wp2_with fail
    refine gN (fun w'=>w'.cell? ⟨w.heap.size,1,none⟩=some (.slice A n c)/\w'.cell? ⟨b,off+k*4,none⟩=some (.int .i64 (tk.kind:Int))/\w'.cell? ⟨b,off+k*4+1,none⟩=some (.int .i64 (tk.from_:Int))/\w'.cell? ⟨b,off+k*4+2,none⟩=some (.int .i64 (tk.at_:Int))/\w'.cell? ⟨b,off+k*4+3,none⟩=some (.int .i64 (tk.end_:Int))) [9] [true,true,true,true,true,true,false,false,false,false] (by kernel_rfl) (by kernel_rfl) rfl (by kernel_rfl) ?_;have hS0:wr.drew.cell? ⟨w.heap.size,1,none⟩=some (.slice A n c)/\wr.drew.cell? ⟨b,off+k*4,none⟩=some (.int .i64 (tk.kind:Int))/\wr.drew.cell? ⟨b,off+k*4+1,none⟩=some (.int .i64 (tk.from_:Int))/\wr.drew.cell? ⟨b,off+k*4+2,none⟩=some (.int .i64 (tk.at_:Int))/\wr.drew.cell? ⟨b,off+k*4+3,none⟩=some (.int .i64 (tk.end_:Int)):=⟨hc1,t0,t1,t2,t3⟩
    iterate 6(refine jL rfl hS0 (by intro w' hSw;obtain⟨hs1,hs2,hs3,hs4,hs5⟩:=hSw;go_simp;rfl) ?_;simp only[Act.put,sA,sZ,sC])
    refine kU (w':=wr.drew.alloc (.cells #[.int .i64 (tk.kind:Int),.int .i64 (tk.from_:Int),.int .i64 (tk.at_:Int),.int .i64 (tk.end_:Int)] 186)) rfl (by go_simp;rfl) ?_ ?_
    ·exact fun _=>⟨by go_simp,by go_simp,by go_simp,by go_simp,by go_simp⟩
    simp only[Act.put,sA,sZ,sC];refine uW rfl (jI _ (.tmp 27) (.tmp 32) _ rfl w2.heap.size 186 i0 _ 4 32 Tryz.underlying128 hi0 hz0 hz1 hz2 rfl (.slice A n c) n (((l.take k).filter fun t=>decide (t.kind≠4)).flatMap kg) rfl (HO.out.drew.alloc _) ⟨wr.heap.size,0,none⟩ 1 1 (kg tk) rfl rfl (vK _ _ _ _ _ _ (by go_simp) (by go_simp) (by go_simp) (by go_simp)) (by simp[kg,Value.oneCell']) (by simp only[maxLen];omega) (by omega) (by simp;omega) ?_);intro v3 w3 hown3 hgrow3 yV;obtain⟨A3,c3,hv3,-,-⟩:=hown3.shape;subst hv3;have hz3:=hgrow3.size;simp at hz3
    have q0:w3.cell? ⟨w.heap.size,1,none⟩=some (.slice A n c):=by
     rw[hgrow3.cell_far _ (by simp;omega) (fun e1=>jv.out e1.symm)];go_simp
    have q1:w3.cell? ⟨b,off+k*4,none⟩=some (.int .i64 (tk.kind:Int)):=by
     rw[hgrow3.cell_far _ (by simp;omega) (fun e1=>lV.out e1.symm)];go_simp
    have q2:w3.cell? ⟨b,off+k*4+1,none⟩=some (.int .i64 (tk.from_:Int)):=by
     rw[hgrow3.cell_far _ (by simp;omega) (fun e1=>lV.out e1.symm)];go_simp
    have q3:w3.cell? ⟨b,off+k*4+2,none⟩=some (.int .i64 (tk.at_:Int)):=by
     rw[hgrow3.cell_far _ (by simp;omega) (fun e1=>lV.out e1.symm)];go_simp
    have q4:w3.cell? ⟨b,off+k*4+3,none⟩=some (.int .i64 (tk.end_:Int)):=by
     rw[hgrow3.cell_far _ (by simp;omega) (fun e1=>lV.out e1.symm)];go_simp
    have hB3:=ak.grown (ak.alloc (ak.drew HR.out) (.cells #[.int .i64 (tk.kind:Int),.int .i64 (tk.from_:Int),.int .i64 (tk.at_:Int),.int .i64 (tk.end_:Int)] 186)) hgrow3 (fun e1=>jv.out e1.symm);have q5:=hB3.frozen 1;have HB3:=kH hB3;clear hB3;refine⟨fun _=>⟨q0,q1,q2,q3,q4⟩,?_⟩;simp only[Act.put,sA,sZ,sC];refine kU (w':=w3) rfl (by go_simp;rfl) (fun _=>⟨q0,q1,q2,q3,q4⟩) ?_;simp only[Act.put,sA,sZ,sC];refine j4 (w':=w3.setCell ⟨w.heap.size,1,none⟩ (.slice A3 (n+1) c3)) rfl (by go_simp) (by simp) ?_;refine kV ?_;simp only[Act.put];have KV:=kH hown3;have K6:=kH hgrow3;clear hown3 hgrow3 yV;go_wp2_with fail
    have e1:(l.take (k+1)).filter (fun t=>decide (t.kind≠4))=((l.take k).filter fun t=>decide (t.kind≠4))++[tk]:=by
     rw[List.take_add_one,uI.out,List.filter_append];simp[H4.out]
    have hB4:=HB3.out.gY 1 (.slice A3 (n+1) c3);go_roundg (gk - 1)
    case measure=>omega
    case rel=>
     refine⟨k+1,A3,n+1,c3,by omega,by simp,by rw[e1,aam,<- HN.out];rfl,by simpa using hB4,?_,?_⟩
     ·rw[e1,List.flatMap_append]
      have Di:(Value.slice A3 (n+1) c3).ownBlock≠some w.heap.size:=KV.out.fe HB3.out (by decide);simpa using KV.out.setCell Di (p:=⟨w.heap.size,1,none⟩) (.slice A3 (n+1) c3)
     ·exact((HS.out.drew.alloc _).grown K6.out (fun g hg=>.inr (HO.out.lt g hg).1)).setCell (.inl rfl) _
  ·go_wp2_with fail
   have hke:k=l.length:=by omega
   have hlf:(l.take k).filter (fun t=>decide (t.kind≠4))=mG s.data.toList:=by
    rw[hke,List.take_length];unfold mG;rw[HL.out]
   have hch:=BQ s.data.toList;have hsl:s.data.toList.length=s.size:=dm s;have hn0:(mG s.data.toList).length=n:=by rw[HN.out,hlf]
   have hpos:0<n:=by
    rw[<- hn0]
    cases hq:mG s.data.toList with
    | nil=>rw[hq]at hch;exact hch.elim
    | cons x xs=>simp
   refine bodyPost_ret (v:=.pointer (some ⟨w.heap.size,0,none⟩)) (by simp[results,Tryz.results64,go_sem]) rfl ?_;refine⟨⟨w.heap.size,w.heap.size,s,mG s.data.toList,A,n,c⟩,⟨⟨0,0,[]⟩,.slice none 0 0⟩,rfl,⟨hn0,by show n<=5000;omega,hs,?_,DC hch,G6 _ hch,KG hch,aab _⟩,rfl,rfl,rfl,rfl,⟨HR.out,aP.nil _ _ _ _,?_,hpos,⟨List.Pairwise.nil,by simp⟩,by simp⟩,?_⟩
   ·intro t ht
    have:=FC hch t ht;rw[hsl]at this;exact this
   ·have:=HO.out
    rw[hlf]at this;exact this.mono (by have:=HB2.out.size;omega)
   ·exact HB2.out.trans (HS.out.toBelow (by have:=HB2.out.size;omega) (fun g hg=>by omega))
end Go.Proofs.YtoepemlnlpamlaaGreat
