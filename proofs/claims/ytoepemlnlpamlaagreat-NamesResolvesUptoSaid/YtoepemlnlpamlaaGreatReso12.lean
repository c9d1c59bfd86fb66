/- The law NamesResolves holds where what it reads is of bulk at most 1048576: it returns true, and its argument reads as before. Part 12: Branch StartM Start. -/
import Derived.Test.YtoepemlnlpamlaaGreatReso04
import Derived.Test.YtoepemlnlpamlaaGreatReso05
import Derived.Test.YtoepemlnlpamlaaGreatReso11
set_option maxRecDepth 100000
set_option maxHeartbeats 4000000
namespace Go.Proofs.YtoepemlnlpamlaaGreat
open Go.RowKit
theorem gX.store{w w':World}{P:Nat->Prop}{g g':Nat}{t:ae}{a b c d e:Value}(h:gX w P g' t a b c d e)(hk:bW (fun x=>x≠g) w w')(hP:∀x,P x->x≠g)(hne:g'≠g):gX w' P g' t a b c d e:=
 ⟨ai.keep h.1 (hk g' _ hne h.1),aB.keeps (fun x cs hx hc=>hk x cs (hP x hx) hc) _ _ h.2⟩
theorem WV(E:PE)(hE:E.Ok)(f:Nat)(IH:∀f',f'<=f->yl E f')(v:PV)(w:World)(t:ae)(q:PS)(hpw:PW w E v)(h5:bM E.l v.st≠5)(hr:aN E.bs E.l (f+1) .branch v.st=some ([t],q)):Calls Tryz.prog 135 #[.pointer (some ⟨E.gp,0,none⟩)] w (bB E w v (t,q)):=by
 rw[aN]at hr;obtain⟨x3,q3,hx,hr2⟩:=eT hr;obtain⟨x5,q5,hy,hr3⟩:=eT hr2;have HX:=kH hx;have HY:=kH hy;have HR:=kH hr3;have HA:=kH (IH f (abE _));have Sq:=kH h5;obtain⟨b1,hb1⟩:∃x,bE E.bs E.l q5 [101,108,115,101]=x:=⟨_,rfl⟩
 have HB1:=kH hb1;obtain⟨b2,hb2⟩:∃x,bE E.bs E.l (ay E.l q5) [105,102]=x:=⟨_,rfl⟩
 have HB2:=kH hb2;clear hr hx hr2 hy hr3 IH h5 hb1 hb2;have hgl:=hpw.blk.lt;have hk2:w.cell? ⟨E.gp,2,none⟩=some (.int .i64 (v.st.k:Int)):=hpw.blk.cell 2;go_enter Tryz.func135,Tryz.ntmps135
 go_wp2_with fail
 generalize hW1:w.alloc (.cells #[.int .i64 0,.string ⟨#[]⟩,.int .i64 0,.int .i64 0,.slice none 0 0] 24)=W1
 have hb1:Below w.heap.size w W1:=by rw[<- hW1];exact ag _ _
 have gJ:ai W1 w.heap.size 24 #[.int .i64 0,.string ⟨#[]⟩,.int .i64 0,.int .i64 0,.slice none 0 0]:=by rw[<- hW1];exact ai.new w _ _
 have hs1:W1.heap.size=w.heap.size+1:=by rw[<- hW1];simp
 have hm1:=PM.of_below (E:=E) (v:=v) hb1;have h1:=hpw.below hb1;have P1:=hm1;have o5:=kH hs1;have jv:=kH hm1;clear hW1 hs1 hm1 hb1;clear hk2;have Sa:Hid (v.st=v.st):=kH rfl;refine(vR E hE v _ h1 Sa.out Sq.out).mono ?_;rintro e w2 ⟨rfl,v2,hv2,h2,hm2⟩;have gF:=kH hv2;have hR2:=hm2.blk h1 gJ;have P2:=P1.trans hm2;clear hv2 hm2;have hcall:=HA.out.expr 1 v2 w2 x3 q3 h2 (by omega) (by omega) (by rw[gF.out];exact HX.out);have HC:=kH hcall;clear hcall;go_wp2_with fail
 refine(HC.out).mono ?_;rintro e w3 ⟨k3,t3,a3,z3,A3,n3,c3,rfl,jX,v3,hv3,h3,eu⟩;try dsimp only at hv3 jX
 have fI:=kH hv3;have bT:=eu.blk h2 hR2;have P3:=P2.trans eu;replace jX:=aB.weak (Q:=fun g=>w.heap.size+1<=g) (fun g _ hg=>abF hR2.lt hg) _ _ jX
 clear hv3 eu;go_wp2_with fail
 generalize lW:w3.alloc (.cells #[.int .i64 k3,.string t3,.int .i64 a3,.int .i64 z3,.slice A3 n3 c3] 24)=w4
 have hb4:Below w3.heap.size w3 w4:=by rw[<- lW];exact ag _ _
 have X3:gX w4 _ w3.heap.size _ (.int .i64 k3) (.string t3) (.int .i64 a3) (.int .i64 z3) (.slice A3 n3 c3):=⟨by rw[<- lW];exact ai.new w3 _ _,aB.keeps (bW.of_below hb4) _ _ jX⟩
 have hs4:w4.heap.size=w3.heap.size+1:=by rw[<- lW];simp
 have h4:=h3.below hb4;have dX:=bT.below hb4 bT.lt;have P4:=P3.trans (PM.of_below hb4);obtain⟨v4,hv4⟩:∃vv,vv=v3:=⟨_,rfl⟩
 have ja:=fI;rw[<- hv4]at h4 P4 ja;try rw[<- hs4]
 clear hv4 lW jX hs4;have hcall:=HA.out.block v4 w4 x5 q5 h4 (by rw[ja.out];exact HY.out);have uY:=kH hcall;clear hcall;refine(uY.out).mono ?_;rintro e w5 ⟨k5,t5,a5,z5,A5,n5,c5,rfl,jF,v5,hv5,h5,iA⟩;try dsimp only at hv5 jF
 have HV5:=kH hv5;have fw:=iA.blk h4 dX;have P5:=P4.trans iA;replace jF:=aB.weak (Q:=fun g=>w.heap.size+1<=g) (fun g _ hg=>abF dX.lt hg) _ _ jF
 replace X3:=X3.pm iA h4
 clear hv5 iA;have hk2:w5.cell? ⟨E.gp,2,none⟩=some (.int .i64 (v5.st.k:Int)):=h5.blk.cell 2;have hgl5:=h5.blk.lt;go_wp2_with fail
 generalize uf:w5.alloc (.cells #[.int .i64 k5,.string t5,.int .i64 a5,.int .i64 z5,.slice A5 n5 c5] 24)=w6
 have hb6:Below w5.heap.size w5 w6:=by rw[<- uf];exact ag _ _
 have X5:gX w6 _ w5.heap.size _ (.int .i64 k5) (.string t5) (.int .i64 a5) (.int .i64 z5) (.slice A5 n5 c5):=⟨by rw[<- uf];exact ai.new w5 _ _,aB.keeps (bW.of_below hb6) _ _ jF⟩
 have hs6:w6.heap.size=w5.heap.size+1:=by rw[<- uf];simp
 have h6:=h5.below hb6;have gD:=fw.below hb6 fw.lt;have P6:=P5.trans (PM.of_below hb6);replace X3:=X3.below hb6
 obtain⟨v6,hv6⟩:∃vv,vv=v5:=⟨_,rfl⟩
 have ll:=HV5;rw[<- hv6]at h6 P6 ll;try rw[<- hs6]
 clear hv6 uf jF hs6;clear hk2;refine(iG E hE v6 _ h6 v5.st.k 0 [] (w.heap.size+1)).mono ?_;rintro e w7 ⟨rfl,dB,kY⟩;have h7:=h6.below dB;have eZ:=gD.below dB gD.lt;have P7:=P6.trans (PM.of_below dB);replace X3:=(X3.below dB).weak (Q:=fun g=>w.heap.size+1<=g/\g≠w7.heap.size) (fun g _ hp=>⟨hp,by omega⟩)
 replace X5:=(X5.below dB).weak (Q:=fun g=>w.heap.size+1<=g/\g≠w7.heap.size) (fun g _ hp=>⟨hp,by omega⟩)
 have hg3:=X3.1.lt;have hg5:=X5.1.lt;have hlt7:=eZ.lt;clear dB;go_wp2_with fail
 generalize nQ:w7.alloc (.cells #[.int .i64 0,.string (aX []),.int .i64 (bO E.l v6.st v5.st.k []),.int .i64 (v6.st.last:Int),.slice none 0 0] 24)=w8
 have dW:Below w7.heap.size w7 w8:=by rw[<- nQ];exact ag _ _
 have X8:gX w8 _ w7.heap.size (aH E.l v6.st v5.st.k 0 [] []) (.int .i64 0) (.string (aX [])) (.int .i64 (bO E.l v6.st v5.st.k [])) (.int .i64 (v6.st.last:Int)) (.slice none 0 0):=⟨by rw[<- nQ];exact ai.new w7 _ _,aB.keeps (bW.of_below dW) _ _ kY⟩
 have h8:=h7.below dW;have eB:=eZ.below dW eZ.lt;have P8:=P7.trans (PM.of_below dW);replace X3:=X3.below dW
 replace X5:=X5.below dW
 obtain⟨v8,dV⟩:∃vv,vv=v6:=⟨_,rfl⟩
 have gL:=ll;rw[<- dV]at h8 P8 gL;clear dV nQ kY;cases b1
 case true=>
  refine(oU E hE v8 _ h8 gL.out [101,108,115,101] HB1.out).mono ?_;rintro e w9 ⟨rfl,v9,gV,h9,fU⟩;have jZ:=kH gV;have eY:=fU.blk h8 eB;have P9:=P8.trans fU;replace X3:=X3.pm fU h8
  replace X5:=X5.pm fU h8
  replace X8:=X8.pm fU h8
  clear gV fU;go_wp2_with fail
  refine(BF E hE v9 _ h9 jZ.out [105,102] HB2.out).mono ?_;rintro e bA ⟨rfl,v10,fZ,h10,eH⟩;have iX:=kH fZ;have dK:=eH.blk h9 eY;have jG:=P9.trans eH;replace X3:=X3.pm eH h9
  replace X5:=X5.pm eH h9
  replace X8:=X8.pm eH h9
  clear fZ eH;cases b2
  case true=>
   obtain⟨x31,q31,hz,hrq⟩:∃x q1,aN E.bs E.l f .branch (ay E.l q5)=some ([x],q1)/\(t,q)=(aH E.l q1 v.st.k 14 [] [x3,x5,x],q1):=by
    have:=HR.out;rw[HB1.out,if_pos rfl,HB2.out,if_pos rfl]at this;obtain⟨x,p,h1,h2⟩:=eT this;simp at h2;exact⟨x,p,h1,by rw[<- h2.1,<- h2.2]⟩
   have HZ:=kH hz;have aM:=kH hrq;clear hz hrq HR;have ZG:=kH (HA.out.branch v10 bA x31 q31 h10 (by rw[iX.out];exact GZ HB2.out) (by rw[iX.out];exact HZ.out));have hg10:=X8.1.lt;go_wp2_with fail
   refine(ZG.out).mono ?_;rintro e CJ ⟨rT,t31,a31,z31,rZ,n31,c31,rfl,mi,v31,hv31,h31,mQ⟩;try dsimp only at hv31 mi
   have Ev:=kH hv31;have xg:=mQ.blk h10 dK;have Mk:=jG.trans mQ;replace mi:=aB.weak (Q:=fun g=>w.heap.size+1<=g/\g≠w7.heap.size) (fun g _ hg=>⟨abF dK.lt hg,by omega⟩) _ _ mi
   have oO:=mQ.blk h10 X8.1;replace X3:=X3.pm mQ h10
   replace X5:=X5.pm mQ h10
   obtain⟨⟨q0,q1',q2',q3,q4⟩,Ia,H7,Hz,Hy,Hw⟩:=oO.five;have D9:=oO.lt;clear hv31 mQ X8;obtain⟨⟨Qo,Qn,Qm,Ql,Qk⟩,Qj,Qi,Qh,Qg,Qf⟩:=X3.1.five;have Qe:=X3.1.lt;obtain⟨⟨JB,Jz,Jw,Ju,Js⟩,Jq,Jo,Jm,Jk,Ji⟩:=X5.1.five;have Jg:=X5.1.lt;go_wp2_with fail
   clear Qo Qn Qm Ql Qk Qj Qi Qh Qg Qf Qe;clear JB Jz Jw Ju Js Jq Jo Jm Jk Ji Jg;obtain⟨h32,zu,xh,pK⟩:=vQ h31 Mk oO (by omega) (.int .i64 rT) (.string t31) (.int .i64 a31) (.int .i64 z31) (.slice rZ n31 c31);have vH:=xg.keep (pK w.heap.size _ (by omega) xg);have oH:gX _ _ _ _ (.int .i64 rT) (.string t31) (.int .i64 a31) (.int .i64 z31) (.slice rZ n31 c31):=⟨xh,aB.keeps (w':=ek CJ w7.heap.size (.int .i64 rT) (.string t31) (.int .i64 a31) (.int .i64 z31) (.slice rZ n31 c31)) (fun g cs hP hc=>pK g cs hP.2 hc) _ _ mi⟩
   replace X3:=(X3.store pK (fun x hx=>hx.2) (by omega)).weak (Q:=fun g=>w.heap.size+1<=g) (fun g _ hp=>hp.1)
   replace X5:=(X5.store pK (fun x hx=>hx.2) (by omega)).weak (Q:=fun g=>w.heap.size+1<=g) (fun g _ hp=>hp.1)
   replace oH:=oH.weak (Q:=fun g=>w.heap.size+1<=g) (fun g _ hp=>hp.1)
   obtain⟨w32,hw32⟩:∃W,ek CJ w7.heap.size (.int .i64 rT) (.string t31) (.int .i64 a31) (.int .i64 z31) (.slice rZ n31 c31)=W:=⟨_,rfl⟩
   have QP:w32.heap.size=CJ.heap.size:=by rw[<- hw32];simp[ek]
   rw[hw32]at h32 zu vH oH X3 X5;unfold ek at hw32;rw[hw32,<- QP];obtain⟨v32,hv32⟩:∃vv,vv=v31:=⟨_,rfl⟩
   have xB:=Ev;rw[<- hv32]at h32 zu xB;clear hv32 xh pK mi oO q0 q1' q2' q3 q4 Ia H7 Hz Hy Hw D9 hw32 QP;have Sk:=kH (yG X3.2 X5.2 oH.2 (by have:=vH.lt;omega));generalize Rl:w32.alloc (.cells #[.int .i64 k3,.string t3,.int .i64 a3,.int .i64 z3,.slice A3 n3 c3,.int .i64 k5,.string t5,.int .i64 a5,.int .i64 z5,.slice A5 n5 c5,.int .i64 rT,.string t31,.int .i64 a31,.int .i64 z31,.slice rZ n31 c31] 24)=uV at Sk⊢
   have JQ:Below w32.heap.size w32 uV:=by rw[<- Rl];exact ag _ _
   have Df:=h32.below JQ;have uh:=vH.below JQ vH.lt;have Gm:=zu.trans (PM.of_below JQ);obtain⟨v33,wP⟩:∃vv,vv=v32:=⟨_,rfl⟩
   have Be:=xB;rw[<- wP]at Df Gm Be;clear wP Rl;refine(dP E hE v33 _ Df v.st.k 14 [] (w.heap.size+1) (some ⟨w32.heap.size,0,none⟩) 3 3 [x3,x5,x31] Sk.out).mono ?_;rintro e Pj ⟨rfl,oz,Rs⟩;have AU:=Df.below oz;have xe:=uh.below oz uh.lt;obtain⟨⟨r0,r1,r2,r3,r4⟩,g0,g1,g2,g3,g4⟩:=xe.five;go_wp2_with fail
   have aO:=kH (bJ (v:=v) AU (Gm.trans (PM.of_below oz)) rfl xe hgl Rs);clear Rs;refine bodyPost_ret (v:=.agg #[.int .i64 14,.string (aX []),.int .i64 (bO E.l v33.st v.st.k [x3,x5,x31]),.int .i64 (v33.st.last:Int),.slice (some ⟨w32.heap.size,0,none⟩) 3 3]) (by simp[results,Tryz.results135,go_sem,r0,r1,r2,r3,r4]) rfl ?_;exact Eq.mp (congrArg (fun r=>bB E w v r _ _) (show(aH E.l v33.st v.st.k 14 [] [x3,x5,x31],v33.st)=_ by rw[aM.out,Be.out])) aO.out
  case false=>
   obtain⟨x31,q31,hz,hrq⟩:∃x q1,aN E.bs E.l f .block (ay E.l q5)=some ([x],q1)/\(t,q)=(aH E.l q1 v.st.k 14 [] [x3,x5,x],q1):=by
    have:=HR.out;rw[HB1.out,if_pos rfl,HB2.out,if_neg (by simp)]at this;obtain⟨x,p,h1,h2⟩:=eT this;simp at h2;exact⟨x,p,h1,by rw[<- h2.1,<- h2.2]⟩
   have HZ:=kH hz;have aM:=kH hrq;clear hz hrq HR;have ZG:=kH (HA.out.block v10 bA x31 q31 h10 (by rw[iX.out];exact HZ.out));have hg10:=X8.1.lt;go_wp2_with fail
   refine(ZG.out).mono ?_;rintro e CJ ⟨rT,t31,a31,z31,rZ,n31,c31,rfl,mi,v31,hv31,h31,mQ⟩;try dsimp only at hv31 mi
   have Ev:=kH hv31;have xg:=mQ.blk h10 dK;have Mk:=jG.trans mQ;replace mi:=aB.weak (Q:=fun g=>w.heap.size+1<=g/\g≠w7.heap.size) (fun g _ hg=>⟨abF dK.lt hg,by omega⟩) _ _ mi
   have oO:=mQ.blk h10 X8.1;replace X3:=X3.pm mQ h10
   replace X5:=X5.pm mQ h10
   obtain⟨⟨q0,q1',q2',q3,q4⟩,Ia,H7,Hz,Hy,Hw⟩:=oO.five;have D9:=oO.lt;clear hv31 mQ X8;obtain⟨⟨Qo,Qn,Qm,Ql,Qk⟩,Qj,Qi,Qh,Qg,Qf⟩:=X3.1.five;have Qe:=X3.1.lt;obtain⟨⟨JB,Jz,Jw,Ju,Js⟩,Jq,Jo,Jm,Jk,Ji⟩:=X5.1.five;have Jg:=X5.1.lt;go_wp2_with fail
   clear Qo Qn Qm Ql Qk Qj Qi Qh Qg Qf Qe;clear JB Jz Jw Ju Js Jq Jo Jm Jk Ji Jg;obtain⟨h32,zu,xh,pK⟩:=vQ h31 Mk oO (by omega) (.int .i64 rT) (.string t31) (.int .i64 a31) (.int .i64 z31) (.slice rZ n31 c31);have vH:=xg.keep (pK w.heap.size _ (by omega) xg);have oH:gX _ _ _ _ (.int .i64 rT) (.string t31) (.int .i64 a31) (.int .i64 z31) (.slice rZ n31 c31):=⟨xh,aB.keeps (w':=ek CJ w7.heap.size (.int .i64 rT) (.string t31) (.int .i64 a31) (.int .i64 z31) (.slice rZ n31 c31)) (fun g cs hP hc=>pK g cs hP.2 hc) _ _ mi⟩
   replace X3:=(X3.store pK (fun x hx=>hx.2) (by omega)).weak (Q:=fun g=>w.heap.size+1<=g) (fun g _ hp=>hp.1)
   replace X5:=(X5.store pK (fun x hx=>hx.2) (by omega)).weak (Q:=fun g=>w.heap.size+1<=g) (fun g _ hp=>hp.1)
   replace oH:=oH.weak (Q:=fun g=>w.heap.size+1<=g) (fun g _ hp=>hp.1)
   obtain⟨w32,hw32⟩:∃W,ek CJ w7.heap.size (.int .i64 rT) (.string t31) (.int .i64 a31) (.int .i64 z31) (.slice rZ n31 c31)=W:=⟨_,rfl⟩
   have QP:w32.heap.size=CJ.heap.size:=by rw[<- hw32];simp[ek]
   rw[hw32]at h32 zu vH oH X3 X5;unfold ek at hw32;rw[hw32,<- QP];obtain⟨v32,hv32⟩:∃vv,vv=v31:=⟨_,rfl⟩
   have xB:=Ev;rw[<- hv32]at h32 zu xB;clear hv32 xh pK mi oO q0 q1' q2' q3 q4 Ia H7 Hz Hy Hw D9 hw32 QP;have Sk:=kH (yG X3.2 X5.2 oH.2 (by have:=vH.lt;omega));generalize Rl:w32.alloc (.cells #[.int .i64 k3,.string t3,.int .i64 a3,.int .i64 z3,.slice A3 n3 c3,.int .i64 k5,.string t5,.int .i64 a5,.int .i64 z5,.slice A5 n5 c5,.int .i64 rT,.string t31,.int .i64 a31,.int .i64 z31,.slice rZ n31 c31] 24)=uV at Sk⊢
   have JQ:Below w32.heap.size w32 uV:=by rw[<- Rl];exact ag _ _
   have Df:=h32.below JQ;have uh:=vH.below JQ vH.lt;have Gm:=zu.trans (PM.of_below JQ);obtain⟨v33,wP⟩:∃vv,vv=v32:=⟨_,rfl⟩
   have Be:=xB;rw[<- wP]at Df Gm Be;clear wP Rl;refine(dP E hE v33 _ Df v.st.k 14 [] (w.heap.size+1) (some ⟨w32.heap.size,0,none⟩) 3 3 [x3,x5,x31] Sk.out).mono ?_;rintro e Pj ⟨rfl,oz,Rs⟩;have AU:=Df.below oz;have xe:=uh.below oz uh.lt;obtain⟨⟨r0,r1,r2,r3,r4⟩,g0,g1,g2,g3,g4⟩:=xe.five;go_wp2_with fail
   have aO:=kH (bJ (v:=v) AU (Gm.trans (PM.of_below oz)) rfl xe hgl Rs);clear Rs;refine bodyPost_ret (v:=.agg #[.int .i64 14,.string (aX []),.int .i64 (bO E.l v33.st v.st.k [x3,x5,x31]),.int .i64 (v33.st.last:Int),.slice (some ⟨w32.heap.size,0,none⟩) 3 3]) (by simp[results,Tryz.results135,go_sem,r0,r1,r2,r3,r4]) rfl ?_;exact Eq.mp (congrArg (fun r=>bB E w v r _ _) (show(aH E.l v33.st v.st.k 14 [] [x3,x5,x31],v33.st)=_ by rw[aM.out,Be.out])) aO.out
 have aM:Hid ((t,q)=(aH E.l q5 v.st.k 14 [] [x3,x5,aH E.l v6.st v5.st.k 0 [] []],q5)):=kH (by
  have:=HR.out;rw[HB1.out,if_neg (by simp)]at this;simp at this
  rw[ll.out,HV5.out,<- this.1,<- this.2])
 clear HR;refine(qE E hE v8 _ h8 gL.out [101,108,115,101] HB1.out).mono ?_;rintro e w9 ⟨rfl,v9,gV,h9,fU⟩;have jZ:=kH gV;have eY:=fU.blk h8 eB;have P9:=P8.trans fU;replace X3:=X3.pm fU h8
 replace X5:=X5.pm fU h8
 replace X8:=X8.pm fU h8
 clear gV fU;obtain⟨⟨Qo,Qn,Qm,Ql,Qk⟩,Qj,Qi,Qh,Qg,Qf⟩:=X3.1.five;have Qe:=X3.1.lt;obtain⟨⟨JB,Jz,Jw,Ju,Js⟩,Jq,Jo,Jm,Jk,Ji⟩:=X5.1.five;have Jg:=X5.1.lt;obtain⟨⟨JA,Jy,Jv,Jt,Jr⟩,Jp,Jn,Jl,Jj,Jh⟩:=X8.1.five;have Jf:=X8.1.lt;go_wp2_with fail
 clear Qo Qn Qm Ql Qk Qj Qi Qh Qg Qf Qe;clear JB Jz Jw Ju Js Jq Jo Jm Jk Ji Jg;clear JA Jy Jv Jt Jr Jp Jn Jl Jj Jh Jf;have rG:=kH (yG (aB.weak (Q:=fun g=>w.heap.size+1<=g) (fun g _ hp=>hp.1) _ _ X3.2) (aB.weak (Q:=fun g=>w.heap.size+1<=g) (fun g _ hp=>hp.1) _ _ X5.2) X8.2 (by have:=eY.lt;omega));generalize FW:w9.alloc (.cells #[.int .i64 k3,.string t3,.int .i64 a3,.int .i64 z3,.slice A3 n3 c3,.int .i64 k5,.string t5,.int .i64 a5,.int .i64 z5,.slice A5 n5 c5,.int .i64 0,.string (aX []),.int .i64 (bO E.l v6.st v5.st.k []),.int .i64 (v6.st.last:Int),.slice none 0 0] 24)=bA at rG⊢
 have jD:Below w9.heap.size w9 bA:=by rw[<- FW];exact ag _ _
 have h10:=h9.below jD;have dK:=eY.below jD eY.lt;have jG:=P9.trans (PM.of_below jD);obtain⟨v10,fZ⟩:∃vv,vv=v9:=⟨_,rfl⟩
 have iX:=jZ;rw[<- fZ]at h10 jG iX;clear fZ FW;refine(dP E hE v10 _ h10 v.st.k 14 [] (w.heap.size+1) (some ⟨w9.heap.size,0,none⟩) 3 3 [x3,x5,aH E.l v6.st v5.st.k 0 [] []] rG.out).mono ?_;rintro e ji ⟨rfl,ig,nR⟩;have h11:=h10.below ig;have jc:=dK.below ig dK.lt;obtain⟨⟨r0,r1,r2,r3,r4⟩,g0,g1,g2,g3,g4⟩:=jc.five;go_wp2_with fail
 have aO:=kH (bJ (v:=v) h11 (jG.trans (PM.of_below ig)) rfl jc hgl nR);clear nR;refine bodyPost_ret (v:=.agg #[.int .i64 14,.string (aX []),.int .i64 (bO E.l v10.st v.st.k [x3,x5,aH E.l v6.st v5.st.k 0 [] []]),.int .i64 (v10.st.last:Int),.slice (some ⟨w9.heap.size,0,none⟩) 3 3]) (by simp[results,Tryz.results135,go_sem,r0,r1,r2,r3,r4]) rfl ?_;exact Eq.mp (congrArg (fun r=>bB E w v r _ _) (show(aH E.l v10.st v.st.k 14 [] [x3,x5,aH E.l v6.st v5.st.k 0 [] []],v10.st)=_ by rw[aM.out,iX.out])) aO.out
theorem abf(E:PE)(hE:E.Ok):∀(f:Nat),∀f',f'<=f->yl E f':=by
 have h0:yl E 0:=by
  constructor<;> · intros;rename_i h;simp[aN]at h
 intro f
 induction f with
 | zero=>
  intro f' hf;have:f'=0:=by omega
  subst this;exact h0
 | succ f ih=>
  intro f' hf;by_cases he:f'<=f
  ·exact ih f' he
  ·have:f'=f+1:=by omega
   subst this
   exact {
    expr:=fun lv v w t q hpw h1 h7 hr=>by
     by_cases h3:lv=3
     ·subst h3
      exact Y3 E hE f ih v w t q hpw hr
     ·by_cases TU:lv=7
      ·subst TU
       exact Y2 E hE f ih v w t q hpw hr
      ·exact Y1 E hE f ih lv h3 TU h1 h7 v w t q hpw hr
    operand:=fun v w t q hpw hr=>SX E hE f ih v w t q hpw hr
    args:=fun v w kids q hpw h5 hr=>OW E hE f ih v w kids q hpw h5 hr
    place:=fun v w t q hpw hr=>XV E hE f ih v w t q hpw hr
    stmt:=fun v w t q hpw hr=>ZV E hE f ih v w t q hpw hr
    block:=fun v w t q hpw hr=>Y8 E hE f ih v w t q hpw hr
    branch:=fun v w t q hpw h5 hr=>WV E hE f ih v w t q hpw h5 hr }
theorem answ(E:PE)(hE:E.Ok)(f:Nat):yl E f:=abf E hE f f (abE _)
end Go.Proofs.YtoepemlnlpamlaaGreat
namespace Go.Proofs.YtoepemlnlpamlaaGreat
def rM(n:Nat):Nat->List jY->Prop
 | _,[]=>False
 | lo,t::ts=>lo<=t.at_/\t.from_<=t.at_/\t.at_<=t.end_/\t.end_<=n/\((ts=[]/\t.kind=5/\t.at_=t.end_)\/(t.kind<=4/\rM n t.end_ ts))
theorem rM.mono{n:Nat}{lo lo':Nat}(h:lo'<=lo):∀{l:List jY},rM n lo l->rM n lo' l
 | [],hc=>hc
 | _::_,hc=>⟨abF h hc.1,hc.2⟩
theorem KJ{s:aZ}:∀(f a:Nat),a<=s.length->s.length<f+a->rM s.length a (uB s f a):=by
 intro f
 induction f with
 | zero=>intro a h1 h2;omega
 | succ f ih=>
  intro a h1 h2;obtain⟨k1,hk1⟩:∃x,j4 s (s.length+1) a=x:=⟨_,rfl⟩
  have hs:=DF (s:=s) (s.length+1) a h1 (by omega);rw[hk1]at hs;rw[uB];simp only[hk1];split
  ·rename_i h
   have:k1=s.length:=by omega
   exact⟨hs.1,hs.1,abE _,by simp only;omega,.inl ⟨rfl,rfl,rfl⟩⟩
  ·rename_i h
   have hlt:k1<s.length:=by omega
   have ht:=Cb hlt (hs.2.2 hlt).1 (hs.2.2 hlt).2;have e1:=hs.1;have e2:=ht.1;exact⟨hs.1,hs.1,Nat.le_of_lt ht.1,ht.2.1,.inr ⟨ht.2.2,ih _ ht.2.1 (by show s.length<f+(gI s k1).2;omega)⟩⟩
theorem Ga{n:Nat}:∀{l:List jY}{lo:Nat},rM n lo l->rM n lo (l.filter fun t=>decide (t.kind≠4))
 | [],_,h=>h
 | t::ts,lo,h=>by
  obtain⟨h1,h2,h3,h4,h5⟩:=h;rcases h5 with⟨rfl,h6,h7⟩| ⟨h6,h7⟩
  ·have:(List.filter (fun t:jY=>decide (t.kind≠4)) [t])=[t]:=by simp[h6]
   rw[this];exact⟨h1,h2,h3,h4,.inl ⟨rfl,h6,h7⟩⟩
  ·have hr:=Ga h7
   by_cases hk:t.kind=4
   ·rw[List.filter_cons_of_neg (by simp[hk])]
    exact hr.mono (by omega)
   ·rw[List.filter_cons_of_pos (by simp[hk])]
    exact⟨h1,h2,h3,h4,.inr ⟨h6,hr⟩⟩
theorem SK(s:aZ):rM s.length 0 (pz s):=Ga (KJ _ _ (Nat.zero_le _) (by omega))
theorem Ad(t:jY)(ts:List jY)(k:Nat):iy (t::ts) (k+1)=iy ts k:=by simp[iy]
theorem DD(t:jY)(ts:List jY):iy (t::ts) 0=t:=by simp[iy]
theorem Me{n:Nat}:∀{l:List jY}{lo:Nat},rM n lo l->nU l
 | [],_,h=>h.elim
 | t::ts,lo,h=>by
  intro k hk hne;obtain⟨_,_,_,_,h5⟩:=h
  cases k with
  | zero=>
   rw[DD]at hne;rcases h5 with⟨_,h6,_⟩| ⟨_,h7⟩
   ·exact absurd h6 hne
   ·cases ts with
    | nil=>exact h7.elim
    | cons _ _=>simp
  | succ k=>
   rw[Ad]at hne;rcases h5 with⟨rfl,_,_⟩| ⟨_,h7⟩
   ·simp at hk
   ·have:=Me h7 k (by simpa using hk) hne
    simp only[abR];omega
theorem Md{n:Nat}:∀{l:List jY}{lo:Nat},rM n lo l->∀k,(iy l k).kind=5->(iy l k).at_=(iy l k).end_
 | [],_,h,_,_=>h.elim
 | t::ts,lo,h,k,hk=>by
  obtain⟨_,_,_,_,h5⟩:=h
  cases k with
  | zero=>
   rw[DD]at hk⊢;rcases h5 with⟨_,_,h7⟩| ⟨h6,_⟩
   ·exact h7
   ·omega
  | succ k=>
   rw[Ad]at hk⊢;rcases h5 with⟨rfl,_,_⟩| ⟨_,h7⟩
   ·simp[iy,ZQ]
   ·exact Md h7 k hk
theorem Tn{n:Nat}{l:List jY}{lo:Nat}(s:aZ)(h:rM n lo l):qH s l:=by
 intro k hk;have:=Md h k hk;unfold bK Bq tQ;rw[this];simp
theorem Mc{n:Nat}:∀{l:List jY}{lo:Nat},rM n lo l->∀k,k+1<l.length->(iy l k).at_<=(iy l (k+1)).at_
 | [],_,h,_,_=>h.elim
 | t::ts,lo,h,k,hk=>by
  obtain⟨_,_,h3,_,h5⟩:=h;rcases h5 with⟨rfl,_,_⟩| ⟨_,h7⟩
  ·simp at hk
  ·cases k with
   | zero=>
    cases ts with
    | nil=>exact h7.elim
    | cons u us=>
     rw[DD,Ad,DD];have:=h7.1;omega
   | succ k=>
    rw[Ad,Ad];exact Mc h7 k (by simpa using hk)
theorem Gg{n:Nat}:∀{l:List jY}{lo:Nat},rM n lo l->∀t∈l,t.from_<=t.at_/\t.at_<=t.end_/\t.end_<=n/\t.kind<=5
 | [],_,h,_,_=>h.elim
 | t::ts,lo,h,u,hu=>by
  obtain⟨_,h2,h3,h4,h5⟩:=h;rcases List.mem_cons.1 hu with rfl|hu
  ·refine⟨h2,h3,h4,?_⟩
   rcases h5 with⟨_,h6,_⟩| ⟨h6,_⟩ <;>omega
  ·rcases h5 with⟨rfl,_,_⟩| ⟨_,h7⟩
   ·cases hu
   ·exact Gg h7 u hu
open Go.RowKit
theorem Z5{s:aZ}:∀(f a:Nat),a<=s.length->(uB s f a).length<=s.length - a+1:=by
 intro f
 induction f with
 | zero=>intro a h1;simp[uB]
 | succ f ih=>
  intro a h1;obtain⟨k1,hk1⟩:∃x,j4 s (s.length+1) a=x:=⟨_,rfl⟩
  have hs:=DF (s:=s) (s.length+1) a h1 (by omega);rw[hk1]at hs;rw[uB];simp only[hk1];split
  ·simp
  ·rename_i h
   have hlt:k1<s.length:=by omega
   have ht:=Cb hlt (hs.2.2 hlt).1 (hs.2.2 hlt).2;have e1:=hs.1;have e2:=ht.1;have:=ih _ ht.2.1;simp only[abR];omega
theorem Cf(s:aZ):(qY s).length<=s.length+1:=by
 have:=Z5 (s:=s) (s.length+1) 0 (Nat.zero_le _);unfold qY;omega
theorem Ns(s:ByteArray)(w:World)(hs:s.size<=4096):Calls Tryz.prog 64 #[.string s] w fun e w'=> ∃E v,e= .returned (.pointer (some ⟨E.gp,0,none⟩))/\E.Ok/\E.bs=s.data.toList/\E.l=pz s.data.toList/\E.lo=w.heap.size/\v.st=⟨0,0,[]⟩/\PW w' E v/\Below w.heap.size w w':=by
 obtain⟨i0,hi0,hz0,hz1,hz2⟩:=info_parts Pp;go_enter Tryz.func64,Tryz.ntmps64
 go_wp2_with fail
 generalize hW1:w.alloc (.cells #[.string s,.slice none 0 0,.int .i64 0,.int .i64 0,.slice none 0 0] 130)=W1
 have hb1:Below w.heap.size w W1:=by rw[<- hW1];exact ag _ _
 have gJ:ai W1 w.heap.size 130 #[.string s,.slice none 0 0,.int .i64 0,.int .i64 0,.slice none 0 0]:=by rw[<- hW1];exact ai.new w _ _
 have hs1:W1.heap.size=w.heap.size+1:=by rw[<- hW1];simp
 refine(RX s W1 hs).mono ?_;rintro e w2 ⟨vl,rfl,hO2,hb2⟩;have hR2:=gJ.below hb2 gJ.lt;have lH:=hb1.trans (hb2.mono hb1.size);obtain⟨l,hl⟩:∃l,qY s.data.toList=l:=⟨_,rfl⟩
 rw[hl]at hO2;obtain⟨Al,cl,rfl,-,-⟩:=hO2.shape;have uy:=kH hO2;have HR2:=kH hR2;have HB2:=kH lH;have HL:=kH hl
 have hll:l.length<=4097:=by
  have:=Cf s.data.toList;rw[HL.out,bP]at this;omega
 have hlt2:=hR2.lt;clear hW1 hb1 gJ hs1 hb2 hO2 hR2 lH hl;go_wp2_with fail
 go_loopg [6] l.length (fun gk s5 wr=> ∃(k:Nat) (A:Option Addr) (n c:Nat),k+gk=l.length/\s5= .int .i64 (k:Int)/\n=((l.take k).filter fun t=>decide (t.kind≠4)).length/\ai wr w.heap.size 130 #[.string s,.slice A n c,.int .i64 0,.int .i64 0,.slice none 0 0]/\aL wr w2.heap.size 186 4 (.slice A n c) n (((l.take k).filter fun t=>decide (t.kind≠4)).flatMap jK)/\aF (fun g=>g=w.heap.size) w2 wr)
 case atStart=>exact⟨0,none,0,0,by omega,rfl,rfl,HR2.out,aL.nil _ _ _ _,aF.refl _ _⟩
 case round=>
  obtain⟨k,A,n,c,hk,rfl,hn,hR,hO,hS⟩:=hrel;have HN:=kH hn;have HR:=kH hR;have HO:=kH hO;have HS:=kH hS;have hgr:=hR.lt;have hc1:wr.cell? ⟨w.heap.size,1,none⟩=some (.slice A n c):=hR.cell 1;have hfz:=hR.frozen 1;have YK:=uy.out.since hS (fun g hg e1=>uy.out.bZ HR2.out (by decide) (by rw[hg,e1]));have Zz:=kH YK;have hnk:n<=k:=by rw[hn];exact abF (List.length_filter_le _ _) (by simp;omega)
  clear hn hR hO hS YK;by_cases hkl:k<l.length
  ·obtain⟨tk,htk⟩:∃x,l[k]? =some x:=⟨_,abI hkl⟩
   obtain⟨b,off,hA,hb,hcs⟩:=Zz.out.rowAt (cells:=jK) (l:=l) rfl rfl (by intro c _;rfl) rfl k tk htk;subst hA;have t0:wr.cell? ⟨b,off+k*4,none⟩=some (.int .i64 (tk.kind:Int)):=hcs 0 _ rfl;have t1:wr.cell? ⟨b,off+k*4+1,none⟩=some (.int .i64 (tk.from_:Int)):=hcs 1 _ rfl;have t2:wr.cell? ⟨b,off+k*4+2,none⟩=some (.int .i64 (tk.at_:Int)):=hcs 2 _ rfl;have t3:wr.cell? ⟨b,off+k*4+3,none⟩=some (.int .i64 (tk.end_:Int)):=hcs 3 _ rfl;have BS:=kH htk;have hwr:IntKind.i64.wrap ((k:Int)+1)=(k:Int)+1:=IntWalk.i64_in _ (by omega);clear hcs htk;by_cases h4:tk.kind=4
   ·have hki:((tk.kind:Int) !=4)=false:=by simp;omega
    have H4:=kH h4;clear h4;go_wp2_with fail
    have e1:(l.take (k+1)).filter (fun t=>decide (t.kind≠4))=(l.take k).filter fun t=>decide (t.kind≠4):=by
     rw[List.take_add_one,BS.out,List.filter_append];simp[H4.out]
    go_roundg (gk - 1)
    case measure=>omega
    case rel=>exact⟨k+1,A,n,c,by omega,by simp,by rw[e1];exact HN.out,HR.out,by rw[e1];exact HO.out,HS.out⟩
   ·have hki:((tk.kind:Int) !=4)=true:=by simp;omega
    have H4:=kH h4;have hne:(Value.slice A n c).ownBlock≠some w.heap.size:=HO.out.bZ HR.out (by decide)
    have hnb:(Value.slice A n c).ownBlock≠some b:=fun e1=>by
     have h1:=(HO.out.lt _ e1).1;have h2:=(uy.out.lt b rfl).2;omega
    have fC:=kH hne;have lD:=kH hnb;have NL:=HS.out.size;clear h4 hne hnb;go_wp2_with fail
    refine dY (fun w'=>w'.cell? ⟨w.heap.size,1,none⟩=some (.slice A n c)/\w'.cell? ⟨b,off+k*4,none⟩=some (.int .i64 (tk.kind:Int))/\w'.cell? ⟨b,off+k*4+1,none⟩=some (.int .i64 (tk.from_:Int))/\w'.cell? ⟨b,off+k*4+2,none⟩=some (.int .i64 (tk.at_:Int))/\w'.cell? ⟨b,off+k*4+3,none⟩=some (.int .i64 (tk.end_:Int))) [9] [true,true,true,true,true,true,false,false,false,false] (by kernel_rfl) (by kernel_rfl) rfl (by kernel_rfl) ?_;have hS0:wr.drew.cell? ⟨w.heap.size,1,none⟩=some (.slice A n c)/\wr.drew.cell? ⟨b,off+k*4,none⟩=some (.int .i64 (tk.kind:Int))/\wr.drew.cell? ⟨b,off+k*4+1,none⟩=some (.int .i64 (tk.from_:Int))/\wr.drew.cell? ⟨b,off+k*4+2,none⟩=some (.int .i64 (tk.at_:Int))/\wr.drew.cell? ⟨b,off+k*4+3,none⟩=some (.int .i64 (tk.end_:Int)):=⟨hc1,t0,t1,t2,t3⟩
    iterate 6(refine gP rfl hS0 (by intro w' hSw;obtain⟨hs1,hs2,hs3,hs4,hs5⟩:=hSw;go_simp;rfl) ?_;simp only[Act.put,sA,sZ,sC])
    refine gH (w':=wr.drew.alloc (.cells #[.int .i64 (tk.kind:Int),.int .i64 (tk.from_:Int),.int .i64 (tk.at_:Int),.int .i64 (tk.end_:Int)] 186)) rfl (by go_simp;rfl) ?_ ?_
    ·exact fun _=>⟨by go_simp,by go_simp,by go_simp,by go_simp,by go_simp⟩
    simp only[Act.put,sA,sZ,sC];refine r9 rfl (iY _ (.tmp 27) (.tmp 32) _ rfl w2.heap.size 186 i0 _ 4 32 Tryz.underlying128 hi0 hz0 hz1 hz2 rfl (.slice A n c) n (((l.take k).filter fun t=>decide (t.kind≠4)).flatMap jK) rfl (HO.out.drew.alloc _) ⟨wr.heap.size,0,none⟩ 1 1 (jK tk) rfl rfl (rQ _ _ _ _ _ _ (by go_simp) (by go_simp) (by go_simp) (by go_simp)) (by simp[jK,Value.oneCell']) (by simp only[maxLen];omega) (by omega) (by simp;omega) ?_);intro v3 w3 hown3 hgrow3 uR;obtain⟨A3,c3,hv3,-,-⟩:=hown3.shape;subst hv3;have hz3:=hgrow3.size;simp at hz3
    have q0:w3.cell? ⟨w.heap.size,1,none⟩=some (.slice A n c):=by
     rw[hgrow3.cell_far _ (by simp;omega) (fun e1=>fC.out e1.symm)];go_simp
    have q1:w3.cell? ⟨b,off+k*4,none⟩=some (.int .i64 (tk.kind:Int)):=by
     rw[hgrow3.cell_far _ (by simp;omega) (fun e1=>lD.out e1.symm)];go_simp
    have q2:w3.cell? ⟨b,off+k*4+1,none⟩=some (.int .i64 (tk.from_:Int)):=by
     rw[hgrow3.cell_far _ (by simp;omega) (fun e1=>lD.out e1.symm)];go_simp
    have q3:w3.cell? ⟨b,off+k*4+2,none⟩=some (.int .i64 (tk.at_:Int)):=by
     rw[hgrow3.cell_far _ (by simp;omega) (fun e1=>lD.out e1.symm)];go_simp
    have q4:w3.cell? ⟨b,off+k*4+3,none⟩=some (.int .i64 (tk.end_:Int)):=by
     rw[hgrow3.cell_far _ (by simp;omega) (fun e1=>lD.out e1.symm)];go_simp
    have hB3:=ai.grown (ai.alloc (ai.drew HR.out) (.cells #[.int .i64 (tk.kind:Int),.int .i64 (tk.from_:Int),.int .i64 (tk.at_:Int),.int .i64 (tk.end_:Int)] 186)) hgrow3 (fun e1=>fC.out e1.symm);have q5:=hB3.frozen 1;have HB3:=kH hB3;clear hB3;refine⟨fun _=>⟨q0,q1,q2,q3,q4⟩,?_⟩;simp only[Act.put,sA,sZ,sC];refine gH (w':=w3) rfl (by go_simp;rfl) (fun _=>⟨q0,q1,q2,q3,q4⟩) ?_;simp only[Act.put,sA,sZ,sC];refine gZ (w':=w3.setCell ⟨w.heap.size,1,none⟩ (.slice A3 (n+1) c3)) rfl (by go_simp) (by simp) ?_;refine iT ?_;simp only[Act.put];have Mt:=kH hown3;have ME:=kH hgrow3;clear hown3 hgrow3 uR;go_wp2_with fail
    have e1:(l.take (k+1)).filter (fun t=>decide (t.kind≠4))=((l.take k).filter fun t=>decide (t.kind≠4))++[tk]:=by
     rw[List.take_add_one,BS.out,List.filter_append];simp[H4.out]
    have hB4:=HB3.out.fM 1 (.slice A3 (n+1) c3);go_roundg (gk - 1)
    case measure=>omega
    case rel=>
     refine⟨k+1,A3,n+1,c3,by omega,by simp,by rw[e1,abP,<- HN.out];rfl,by simpa using hB4,?_,?_⟩
     ·rw[e1,List.flatMap_append]
      have D6:(Value.slice A3 (n+1) c3).ownBlock≠some w.heap.size:=Mt.out.bZ HB3.out (by decide);simpa using Mt.out.setCell D6 (p:=⟨w.heap.size,1,none⟩) (.slice A3 (n+1) c3)
     ·exact((HS.out.drew.alloc _).grown ME.out (fun g hg=>.inr (HO.out.lt g hg).1)).setCell (.inl rfl) _
  ·go_wp2_with fail
   have hke:k=l.length:=by omega
   have hlf:(l.take k).filter (fun t=>decide (t.kind≠4))=pz s.data.toList:=by
    rw[hke,List.take_length];unfold pz;rw[HL.out]
   have hch:=SK s.data.toList;have hsl:s.data.toList.length=s.size:=bP s;have hn0:(pz s.data.toList).length=n:=by rw[HN.out,hlf]
   have hpos:0<n:=by
    rw[<- hn0]
    cases hq:pz s.data.toList with
    | nil=>rw[hq]at hch;exact hch.elim
    | cons x xs=>simp
   refine bodyPost_ret (v:=.pointer (some ⟨w.heap.size,0,none⟩)) (by simp[results,Tryz.results64,go_sem]) rfl ?_;refine⟨⟨w.heap.size,w.heap.size,s,pz s.data.toList,A,n,c⟩,⟨⟨0,0,[]⟩,.slice none 0 0⟩,rfl,⟨hn0,by show n<=5000;omega,hs,?_,Me hch,Tn _ hch,Mc hch,abE _⟩,rfl,rfl,rfl,rfl,⟨HR.out,aL.nil _ _ _ _,?_,hpos,⟨List.Pairwise.nil,by simp⟩,by simp⟩,?_⟩
   ·intro t ht
    have:=Gg hch t ht;rw[hsl]at this;exact this
   ·have:=HO.out
    rw[hlf]at this;exact this.mono (by have:=HB2.out.size;omega)
   ·exact HB2.out.trans (HS.out.toBelow (by have:=HB2.out.size;omega) (fun g hg=>by omega))
end Go.Proofs.YtoepemlnlpamlaaGreat
