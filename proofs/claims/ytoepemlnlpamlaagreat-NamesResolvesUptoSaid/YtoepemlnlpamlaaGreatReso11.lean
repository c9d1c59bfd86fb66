/- The law NamesResolves holds where what it reads is of bulk at most 1048576: it returns true, and its argument reads as before. Part 11: Stmt. -/
import Derived.Test.YtoepemlnlpamlaaGreatReso10
set_option maxRecDepth 100000
set_option maxHeartbeats 4000000
namespace Go.Proofs.YtoepemlnlpamlaaGreat
open Go.RowKit
theorem SS(E:PE)(hE:E.Ok)(v:PV)(w:World)(hpw:PW w E v){p:PS}(hst:v.st=p):Calls Tryz.prog 130 #[.pointer (some ⟨E.gp,0,none⟩)] w (bB E w v (jB E.bs E.l p)):=by
 subst hst;exact wJ E hE v w hpw
theorem ZV(E:PE)(hE:E.Ok)(f:Nat)(IH:∀f',f'<=f->yl E f')(v:PV)(w:World)(t:ae)(q:PS)(hpw:PW w E v)(hr:aN E.bs E.l (f+1) .stmt v.st=some ([t],q)):Calls Tryz.prog 74 #[.pointer (some ⟨E.gp,0,none⟩)] w (bB E w v (t,q)):=by
 rw[aN]at hr;have HR:=kH hr;have HA:=kH (IH f (abE _));clear hr IH;have hgl:=hpw.blk.lt;have hk2:w.cell? ⟨E.gp,2,none⟩=some (.int .i64 (v.st.k:Int)):=hpw.blk.cell 2;obtain⟨k,hk⟩:∃x,bM E.l v.st=x:=⟨_,rfl⟩
 have HK:=kH hk;obtain⟨b1,hb1⟩:∃x,bE E.bs E.l v.st [118,97,114]=x:=⟨_,rfl⟩
 have HB1:=kH hb1;obtain⟨b2,hb2⟩:∃x,bE E.bs E.l v.st [105,102]=x:=⟨_,rfl⟩
 have HB2:=kH hb2;obtain⟨b3,hb3⟩:∃x,bE E.bs E.l v.st [119,104,105,108,101]=x:=⟨_,rfl⟩
 have HB3:=kH hb3;obtain⟨b4,hb4⟩:∃x,bE E.bs E.l v.st [102,111,114]=x:=⟨_,rfl⟩
 have sV:=kH hb4;obtain⟨b5,hb5⟩:∃x,bE E.bs E.l v.st [114,101,116,117,114,110]=x:=⟨_,rfl⟩
 have jb:=kH hb5;obtain⟨b6,hb6⟩:∃x,bE E.bs E.l v.st [97,115,115,101,114,116]=x:=⟨_,rfl⟩
 have mP:=kH hb6;clear hk hb1 hb2 hb3 hb4 hb5 hb6;go_enter Tryz.func74,Tryz.ntmps74
 go_wp2_with fail
 generalize hW1:w.alloc (.cells #[.int .i64 0,.string ⟨#[]⟩,.int .i64 0,.int .i64 0,.slice none 0 0] 24)=W1
 have hb1:Below w.heap.size w W1:=by rw[<- hW1];exact ag _ _
 have gJ:ai W1 w.heap.size 24 #[.int .i64 0,.string ⟨#[]⟩,.int .i64 0,.int .i64 0,.slice none 0 0]:=by rw[<- hW1];exact ai.new w _ _
 have hs1:W1.heap.size=w.heap.size+1:=by rw[<- hW1];simp
 have hm1:=PM.of_below (E:=E) (v:=v) hb1;have h1:=hpw.below hb1;have P1:=hm1;have o5:=kH hs1;have jv:=kH hm1;clear hW1 hs1 hm1 hb1;clear hk2;have Sa:Hid (v.st=v.st):=kH rfl;cases b1
 case true=>
  obtain⟨x7,q7,hx,hrq⟩:∃x q1,aN E.bs E.l f (.expr 1) (aI E.bs E.l (jB E.bs E.l (dI E.l (ay E.l v.st))).2 [61])=some ([x],q1)/\(t,q)=(aH E.l (aI E.bs E.l q1 [59]) v.st.k 12 (cK E.bs E.l (ay E.l v.st)) [(jB E.bs E.l (dI E.l (ay E.l v.st))).1,x],aI E.bs E.l q1 [59]):=by
   have:=HR.out;rw[HB1.out,if_pos rfl]at this;obtain⟨x,p,h1,h2⟩:=eT this;simp at h2;exact⟨x,p,h1,by rw[<- h2.1,<- h2.2]⟩
  have HX:=kH hx;have aM:=kH hrq;clear hx hrq HR;refine(oU E hE v _ h1 Sa.out [118,97,114] HB1.out).mono ?_;rintro e w2 ⟨rfl,v2,hv2,h2,hm2⟩;have gF:=kH hv2;have hR2:=hm2.blk h1 gJ;have P2:=P1.trans hm2;clear hv2 hm2;go_wp2_with fail
  refine(TL E hE v2 _ h2 gF.out).mono ?_;rintro e w3 ⟨rfl,v3,hv3,h3,eu⟩;have fI:=kH hv3;have bT:=eu.blk h2 hR2;have P3:=P2.trans eu;clear hv3 eu;go_wp2_with fail
  refine(SS E hE v3 _ h3 fI.out).mono ?_;rintro e w4 ⟨k4,t4,a4,z4,A4,n4,c4,rfl,kE,v4,hv4,h4,iB⟩;try dsimp only at hv4 kE
  have ja:=kH hv4;have dX:=iB.blk h3 bT;have P4:=P3.trans iB;replace kE:=aB.weak (Q:=fun g=>w.heap.size+1<=g) (fun g _ hg=>abF bT.lt hg) _ _ kE
  clear hv4 iB;go_wp2_with fail
  generalize jk:w4.alloc (.cells #[.int .i64 k4,.string t4,.int .i64 a4,.int .i64 z4,.slice A4 n4 c4] 24)=w5
  have hb5:Below w4.heap.size w4 w5:=by rw[<- jk];exact ag _ _
  have X4:gX w5 _ w4.heap.size _ (.int .i64 k4) (.string t4) (.int .i64 a4) (.int .i64 z4) (.slice A4 n4 c4):=⟨by rw[<- jk];exact ai.new w4 _ _,aB.keeps (bW.of_below hb5) _ _ kE⟩
  have hs5:w5.heap.size=w4.heap.size+1:=by rw[<- jk];simp
  have h5:=h4.below hb5;have fw:=dX.below hb5 dX.lt;have P5:=P4.trans (PM.of_below hb5);obtain⟨v5,hv5⟩:∃vv,vv=v4:=⟨_,rfl⟩
  have HV5:=ja;rw[<- hv5]at h5 P5 HV5;try rw[<- hs5]
  clear hv5 jk kE hs5;refine(jS E hE v5 _ h5 HV5.out [61]).mono ?_;rintro e w6 ⟨rfl,v6,hv6,h6,gQ⟩;have ll:=kH hv6;have gD:=gQ.blk h5 fw;have P6:=P5.trans gQ;replace X4:=X4.pm gQ h5
  clear hv6 gQ;have hcall:=HA.out.expr 1 v6 w6 x7 q7 h6 (by omega) (by omega) (by rw[ll.out];exact HX.out);have HC:=kH hcall;clear hcall;go_wp2_with fail
  refine(HC.out).mono ?_;rintro e w7 ⟨k7,t7,a7,z7,A7,n7,c7,rfl,kY,v7,hv7,h7,iV⟩;try dsimp only at hv7 kY
  have lh:=kH hv7;have eZ:=iV.blk h6 gD;have P7:=P6.trans iV;replace kY:=aB.weak (Q:=fun g=>w.heap.size+1<=g) (fun g _ hg=>abF gD.lt hg) _ _ kY
  replace X4:=X4.pm iV h6
  clear hv7 iV;go_wp2_with fail
  generalize nQ:w7.alloc (.cells #[.int .i64 k7,.string t7,.int .i64 a7,.int .i64 z7,.slice A7 n7 c7] 24)=w8
  have dW:Below w7.heap.size w7 w8:=by rw[<- nQ];exact ag _ _
  have X7:gX w8 _ w7.heap.size _ (.int .i64 k7) (.string t7) (.int .i64 a7) (.int .i64 z7) (.slice A7 n7 c7):=⟨by rw[<- nQ];exact ai.new w7 _ _,aB.keeps (bW.of_below dW) _ _ kY⟩
  have jQ:w8.heap.size=w7.heap.size+1:=by rw[<- nQ];simp
  have h8:=h7.below dW;have eB:=eZ.below dW eZ.lt;have P8:=P7.trans (PM.of_below dW);replace X4:=X4.below dW
  obtain⟨v8,dV⟩:∃vv,vv=v7:=⟨_,rfl⟩
  have gL:=lh;rw[<- dV]at h8 P8 gL;try rw[<- jQ]
  clear dV nQ kY jQ;refine(jS E hE v8 _ h8 gL.out [59]).mono ?_;rintro e w9 ⟨rfl,v9,gV,h9,fU⟩;have jZ:=kH gV;have eY:=fU.blk h8 eB;have P9:=P8.trans fU;replace X4:=X4.pm fU h8
  replace X7:=X7.pm fU h8
  clear gV fU;obtain⟨⟨qaX4,qbX4,qcX4,qdX4,qeX4⟩,qgX4,qhX4,qiX4,qjX4,qkX4⟩:=X4.1.five;have qlX4:=X4.1.lt;obtain⟨⟨VB,Vz,Vw,Vu,Vs⟩,Vq,Vo,Vm,Vk,Vf⟩:=X7.1.five;have Vd:=X7.1.lt;go_wp2_with fail
  clear qaX4 qbX4 qcX4 qdX4 qeX4 qgX4 qhX4 qiX4 qjX4 qkX4 qlX4;clear VB Vz Vw Vu Vs Vq Vo Vm Vk Vf Vd;have rG:=kH (yH X4.2 X7.2 (by have:=eY.lt;omega));generalize FW:w9.alloc (.cells #[.int .i64 k4,.string t4,.int .i64 a4,.int .i64 z4,.slice A4 n4 c4,.int .i64 k7,.string t7,.int .i64 a7,.int .i64 z7,.slice A7 n7 c7] 24)=bA at rG⊢
  have jD:Below w9.heap.size w9 bA:=by rw[<- FW];exact ag _ _
  have h10:=h9.below jD;have dK:=eY.below jD eY.lt;have jG:=P9.trans (PM.of_below jD);obtain⟨v10,fZ⟩:∃vv,vv=v9:=⟨_,rfl⟩
  have iX:=jZ;rw[<- fZ]at h10 jG iX;clear fZ FW;refine(dP E hE v10 _ h10 v.st.k 12 (cK E.bs E.l (ay E.l v.st)) (w.heap.size+1) (some ⟨w9.heap.size,0,none⟩) 2 2 [(jB E.bs E.l (dI E.l (ay E.l v.st))).1,x7] rG.out).mono ?_;rintro e ji ⟨rfl,ig,nR⟩;have h11:=h10.below ig;have jc:=dK.below ig dK.lt;obtain⟨⟨r0,r1,r2,r3,r4⟩,g0,g1,g2,g3,g4⟩:=jc.five;go_wp2_with fail
  have aO:=kH (bJ (v:=v) h11 (jG.trans (PM.of_below ig)) rfl jc hgl nR);clear nR;refine bodyPost_ret (v:=.agg #[.int .i64 12,.string (aX (cK E.bs E.l (ay E.l v.st))),.int .i64 (bO E.l v10.st v.st.k [(jB E.bs E.l (dI E.l (ay E.l v.st))).1,x7]),.int .i64 (v10.st.last:Int),.slice (some ⟨w9.heap.size,0,none⟩) 2 2]) (by simp[results,Tryz.results74,go_sem,r0,r1,r2,r3,r4]) rfl ?_;exact Eq.mp (congrArg (fun r=>bB E w v r _ _) (show(aH E.l v10.st v.st.k 12 (cK E.bs E.l (ay E.l v.st)) [(jB E.bs E.l (dI E.l (ay E.l v.st))).1,x7],v10.st)=_ by rw[aM.out,iX.out])) aO.out
 have hR2:=HR.out;rw[HB1.out,if_neg (by simp)]at hR2;replace HR:=kH hR2
 clear hR2;refine(qE E hE v _ h1 Sa.out [118,97,114] HB1.out).mono ?_;rintro e w2 ⟨rfl,v2,hv2,h2,hm2⟩;have gF:=kH hv2;have hR2:=hm2.blk h1 gJ;have P2:=P1.trans hm2;clear hv2 hm2;go_wp2_with fail
 refine(BF E hE v2 _ h2 gF.out [105,102] HB2.out).mono ?_;rintro e w3 ⟨rfl,v3,hv3,h3,eu⟩;have fI:=kH hv3;have bT:=eu.blk h2 hR2;have P3:=P2.trans eu;clear hv3 eu;cases b2
 case true=>
  have hR2:=HR.out;rw[HB2.out,if_pos rfl]at hR2;have hcall:=HA.out.branch v3 w3 t q h3 (by rw[fI.out];exact GZ HB2.out) (by rw[fI.out];exact hR2);have HC:=kH hcall;clear hcall hR2;go_wp2_with fail
  refine(HC.out).mono ?_;rintro e w4 ⟨k4,t4,a4,z4,A4,n4,c4,rfl,kE,v4,hv4,h4,iB⟩;try dsimp only at hv4 kE
  have ja:=kH hv4;have dX:=iB.blk h3 bT;have P4:=P3.trans iB;replace kE:=aB.weak (Q:=fun g=>w.heap.size+1<=g) (fun g _ hg=>abF bT.lt hg) _ _ kE
  clear hv4 iB;have aM:=trivial;obtain⟨⟨r0,r1,r2,r3,r4⟩,g0,g1,g2,g3,g4⟩:=dX.five;go_wp2_with fail
  have aO:=kH (bJ (v:=v) h4 P4 rfl dX hgl kE);clear kE;rw[ja.out]at aO;refine bodyPost_ret (v:=.agg #[.int .i64 k4,.string t4,.int .i64 a4,.int .i64 z4,.slice A4 n4 c4]) (by simp[results,Tryz.results74,go_sem,r0,r1,r2,r3,r4]) rfl ?_;try rw[aM.out]
  exact aO.out
 have hR2:=HR.out;rw[HB2.out,if_neg (by simp)]at hR2;replace HR:=kH hR2
 clear hR2;go_wp2_with fail
 cases b3
 case true=>
  obtain⟨x4,q4,x6,q6,hx,hy,hrq⟩:∃x q1 y q2,aN E.bs E.l f (.expr 1) (ay E.l v.st)=some ([x],q1)/\aN E.bs E.l f .block q1=some ([y],q2)/\(t,q)=(aH E.l q2 v.st.k 15 [] [x,y],q2):=by
   have:=HR.out;rw[HB3.out,if_pos rfl]at this;obtain⟨x,p,h1,h2⟩:=eT this;obtain⟨y,p2,h3,h4⟩:=eT h2;simp at h4;exact⟨x,p,y,p2,h1,h3,by rw[<- h4.1,<- h4.2]⟩
  have HX:=kH hx;have HY:=kH hy;have aM:=kH hrq;clear hx hy hrq HR;refine(oU E hE v3 _ h3 fI.out [119,104,105,108,101] HB3.out).mono ?_;rintro e w4 ⟨rfl,v4,hv4,h4,iB⟩;have ja:=kH hv4;have dX:=iB.blk h3 bT;have P4:=P3.trans iB;clear hv4 iB;have hcall:=HA.out.expr 1 v4 w4 x4 q4 h4 (by omega) (by omega) (by rw[ja.out];exact HX.out);have HC:=kH hcall;clear hcall;go_wp2_with fail
  refine(HC.out).mono ?_;rintro e w5 ⟨k5,t5,a5,z5,A5,n5,c5,rfl,jF,v5,hv5,h5,iA⟩;try dsimp only at hv5 jF
  have HV5:=kH hv5;have fw:=iA.blk h4 dX;have P5:=P4.trans iA;replace jF:=aB.weak (Q:=fun g=>w.heap.size+1<=g) (fun g _ hg=>abF dX.lt hg) _ _ jF
  clear hv5 iA;go_wp2_with fail
  generalize uf:w5.alloc (.cells #[.int .i64 k5,.string t5,.int .i64 a5,.int .i64 z5,.slice A5 n5 c5] 24)=w6
  have hb6:Below w5.heap.size w5 w6:=by rw[<- uf];exact ag _ _
  have X5:gX w6 _ w5.heap.size _ (.int .i64 k5) (.string t5) (.int .i64 a5) (.int .i64 z5) (.slice A5 n5 c5):=⟨by rw[<- uf];exact ai.new w5 _ _,aB.keeps (bW.of_below hb6) _ _ jF⟩
  have hs6:w6.heap.size=w5.heap.size+1:=by rw[<- uf];simp
  have h6:=h5.below hb6;have gD:=fw.below hb6 fw.lt;have P6:=P5.trans (PM.of_below hb6);obtain⟨v6,hv6⟩:∃vv,vv=v5:=⟨_,rfl⟩
  have ll:=HV5;rw[<- hv6]at h6 P6 ll;try rw[<- hs6]
  clear hv6 uf jF hs6;have hcall:=HA.out.block v6 w6 x6 q6 h6 (by rw[ll.out];exact HY.out);have uY:=kH hcall;clear hcall;refine(uY.out).mono ?_;rintro e w7 ⟨k7,t7,a7,z7,A7,n7,c7,rfl,kY,v7,hv7,h7,iV⟩;try dsimp only at hv7 kY
  have lh:=kH hv7;have eZ:=iV.blk h6 gD;have P7:=P6.trans iV;replace kY:=aB.weak (Q:=fun g=>w.heap.size+1<=g) (fun g _ hg=>abF gD.lt hg) _ _ kY
  replace X5:=X5.pm iV h6
  clear hv7 iV;obtain⟨⟨JB,Jz,Jw,Ju,Js⟩,Jq,Jo,Jm,Jk,Ji⟩:=X5.1.five;have Jg:=X5.1.lt;go_wp2_with fail
  clear JB Jz Jw Ju Js Jq Jo Jm Jk Ji Jg;generalize nQ:w7.alloc (.cells #[.int .i64 k7,.string t7,.int .i64 a7,.int .i64 z7,.slice A7 n7 c7] 24)=w8
  have dW:Below w7.heap.size w7 w8:=by rw[<- nQ];exact ag _ _
  have X7:gX w8 _ w7.heap.size _ (.int .i64 k7) (.string t7) (.int .i64 a7) (.int .i64 z7) (.slice A7 n7 c7):=⟨by rw[<- nQ];exact ai.new w7 _ _,aB.keeps (bW.of_below dW) _ _ kY⟩
  have jQ:w8.heap.size=w7.heap.size+1:=by rw[<- nQ];simp
  have h8:=h7.below dW;have eB:=eZ.below dW eZ.lt;have P8:=P7.trans (PM.of_below dW);replace X5:=X5.below dW
  obtain⟨v8,dV⟩:∃vv,vv=v7:=⟨_,rfl⟩
  have gL:=lh;rw[<- dV]at h8 P8 gL;try rw[<- jQ]
  clear dV nQ kY jQ;have Gx:=kH (yH X5.2 X7.2 (by have:=eB.lt;omega));generalize qA:w8.alloc (.cells #[.int .i64 k5,.string t5,.int .i64 a5,.int .i64 z5,.slice A5 n5 c5,.int .i64 k7,.string t7,.int .i64 a7,.int .i64 z7,.slice A7 n7 c7] 24)=w9 at Gx⊢
  have fA:Below w8.heap.size w8 w9:=by rw[<- qA];exact ag _ _
  have h9:=h8.below fA;have eY:=eB.below fA eB.lt;have P9:=P8.trans (PM.of_below fA);obtain⟨v9,gV⟩:∃vv,vv=v8:=⟨_,rfl⟩
  have jZ:=gL;rw[<- gV]at h9 P9 jZ;clear gV qA;refine(dP E hE v9 _ h9 v.st.k 15 [] (w.heap.size+1) (some ⟨w8.heap.size,0,none⟩) 2 2 [x4,x6] Gx.out).mono ?_;rintro e bA ⟨rfl,jD,mq⟩;have h10:=h9.below jD;have dK:=eY.below jD eY.lt;obtain⟨⟨r0,r1,r2,r3,r4⟩,g0,g1,g2,g3,g4⟩:=dK.five;go_wp2_with fail
  have aO:=kH (bJ (v:=v) h10 (P9.trans (PM.of_below jD)) rfl dK hgl mq);clear mq;refine bodyPost_ret (v:=.agg #[.int .i64 15,.string (aX []),.int .i64 (bO E.l v9.st v.st.k [x4,x6]),.int .i64 (v9.st.last:Int),.slice (some ⟨w8.heap.size,0,none⟩) 2 2]) (by simp[results,Tryz.results74,go_sem,r0,r1,r2,r3,r4]) rfl ?_;exact Eq.mp (congrArg (fun r=>bB E w v r _ _) (show(aH E.l v9.st v.st.k 15 [] [x4,x6],v9.st)=_ by rw[aM.out,jZ.out])) aO.out
 have hR2:=HR.out;rw[HB3.out,if_neg (by simp)]at hR2;replace HR:=kH hR2
 clear hR2;refine(qE E hE v3 _ h3 fI.out [119,104,105,108,101] HB3.out).mono ?_;rintro e w4 ⟨rfl,v4,hv4,h4,iB⟩;have ja:=kH hv4;have dX:=iB.blk h3 bT;have P4:=P3.trans iB;clear hv4 iB;go_wp2_with fail
 cases b4
 case true=>
  obtain⟨x8,q8,ED,Ib,x13,q13,hx,hy,hz,hrq⟩:∃x q1 y q2 z q3,aN E.bs E.l f (.expr 1) (aI E.bs E.l (dI E.l (ay E.l v.st)) [61])=some ([x],q1)/\aN E.bs E.l f (.expr 1) (aI E.bs E.l q1 [116,111])=some ([y],q2)/\aN E.bs E.l f .block q2=some ([z],q3)/\(t,q)=(aH E.l q3 v.st.k 16 (cK E.bs E.l (ay E.l v.st)) [x,y,z],q3):=by
   have:=HR.out;rw[sV.out,if_pos rfl]at this;obtain⟨x,p,h1,h2⟩:=eT this;obtain⟨y,p2,h3,h4⟩:=eT h2;obtain⟨z,p3,h5,h6⟩:=eT h4;simp at h6;exact⟨x,p,y,p2,z,p3,h1,h3,h5,by rw[<- h6.1,<- h6.2]⟩
  have HX:=kH hx;have HY:=kH hy;have HZ:=kH hz;have aM:=kH hrq;clear hx hy hz hrq HR;refine(oU E hE v4 _ h4 ja.out [102,111,114] sV.out).mono ?_;rintro e w5 ⟨rfl,v5,hv5,h5,iA⟩;have HV5:=kH hv5;have fw:=iA.blk h4 dX;have P5:=P4.trans iA;clear hv5 iA;go_wp2_with fail
  refine(TL E hE v5 _ h5 HV5.out).mono ?_;rintro e w6 ⟨rfl,v6,hv6,h6,gQ⟩;have ll:=kH hv6;have gD:=gQ.blk h5 fw;have P6:=P5.trans gQ;clear hv6 gQ;go_wp2_with fail
  refine(jS E hE v6 _ h6 ll.out [61]).mono ?_;rintro e w7 ⟨rfl,v7,hv7,h7,iV⟩;have lh:=kH hv7;have eZ:=iV.blk h6 gD;have P7:=P6.trans iV;clear hv7 iV;have hcall:=HA.out.expr 1 v7 w7 x8 q8 h7 (by omega) (by omega) (by rw[lh.out];exact HX.out);have HC:=kH hcall;clear hcall;go_wp2_with fail
  refine(HC.out).mono ?_;rintro e w8 ⟨k8,t8,a8,z8,A8,n8,c8,rfl,rX,v8,dV,h8,dS⟩;try dsimp only at dV rX
  have gL:=kH dV;have eB:=dS.blk h7 eZ;have P8:=P7.trans dS;replace rX:=aB.weak (Q:=fun g=>w.heap.size+1<=g) (fun g _ hg=>abF eZ.lt hg) _ _ rX
  clear dV dS;go_wp2_with fail
  generalize qA:w8.alloc (.cells #[.int .i64 k8,.string t8,.int .i64 a8,.int .i64 z8,.slice A8 n8 c8] 24)=w9
  have fA:Below w8.heap.size w8 w9:=by rw[<- qA];exact ag _ _
  have X8:gX w9 _ w8.heap.size _ (.int .i64 k8) (.string t8) (.int .i64 a8) (.int .i64 z8) (.slice A8 n8 c8):=⟨by rw[<- qA];exact ai.new w8 _ _,aB.keeps (bW.of_below fA) _ _ rX⟩
  have Db:w9.heap.size=w8.heap.size+1:=by rw[<- qA];simp
  have h9:=h8.below fA;have eY:=eB.below fA eB.lt;have P9:=P8.trans (PM.of_below fA);obtain⟨v9,gV⟩:∃vv,vv=v8:=⟨_,rfl⟩
  have jZ:=gL;rw[<- gV]at h9 P9 jZ;try rw[<- Db]
  clear gV qA rX Db;refine(jS E hE v9 _ h9 jZ.out [116,111]).mono ?_;rintro e bA ⟨rfl,v10,fZ,h10,eH⟩;have iX:=kH fZ;have dK:=eH.blk h9 eY;have jG:=P9.trans eH;replace X8:=X8.pm eH h9
  clear fZ eH;have hcall:=HA.out.expr 1 v10 bA ED Ib h10 (by omega) (by omega) (by rw[iX.out];exact HY.out);have uY:=kH hcall;clear hcall;go_wp2_with fail
  refine(uY.out).mono ?_;rintro e ji ⟨k11,t11,Mi,Kr,BX,n11,c11,rfl,nR,v11,lG,h11,nP⟩;try dsimp only at lG nR
  have mR:=kH lG;have jc:=nP.blk h10 dK;have rE:=jG.trans nP;replace nR:=aB.weak (Q:=fun g=>w.heap.size+1<=g) (fun g _ hg=>abF dK.lt hg) _ _ nR
  replace X8:=X8.pm nP h10
  clear lG nP;go_wp2_with fail
  generalize ze:ji.alloc (.cells #[.int .i64 k11,.string t11,.int .i64 Mi,.int .i64 Kr,.slice BX n11 c11] 24)=mJ
  have sJ:Below ji.heap.size ji mJ:=by rw[<- ze];exact ag _ _
  have xA:gX mJ _ ji.heap.size _ (.int .i64 k11) (.string t11) (.int .i64 Mi) (.int .i64 Kr) (.slice BX n11 c11):=⟨by rw[<- ze];exact ai.new ji _ _,aB.keeps (bW.of_below sJ) _ _ nR⟩
  have JK:mJ.heap.size=ji.heap.size+1:=by rw[<- ze];simp
  have h12:=h11.below sJ;have iW:=jc.below sJ jc.lt;have mO:=rE.trans (PM.of_below sJ);replace X8:=X8.below sJ
  obtain⟨v12,kI⟩:∃vv,vv=v11:=⟨_,rfl⟩
  have nA:=mR;rw[<- kI]at h12 mO nA;try rw[<- JK]
  clear kI ze nR JK;have hcall:=HA.out.block v12 mJ x13 q13 h12 (by rw[nA.out];exact HZ.out);have ZG:=kH hcall;clear hcall;refine(ZG.out).mono ?_;rintro e uL ⟨k13,t13,a13,z13,A13,n13,c13,rfl,ru,v13,y9,pR,Cr⟩;try dsimp only at y9 ru
  have Ew:=kH y9;have lI:=Cr.blk h12 iW;have Gp:=mO.trans Cr;replace ru:=aB.weak (Q:=fun g=>w.heap.size+1<=g) (fun g _ hg=>abF iW.lt hg) _ _ ru
  replace X8:=X8.pm Cr h12
  replace xA:=xA.pm Cr h12
  clear y9 Cr;obtain⟨⟨JA,Jy,Jv,Jt,Jr⟩,Jp,Jn,Jl,Jj,Jh⟩:=X8.1.five;have Jf:=X8.1.lt;obtain⟨⟨VC,VA,Vy,Vv,Vt⟩,Vr,Vp,Vn,Vl,Vg⟩:=xA.1.five;have Ve:=xA.1.lt;go_wp2_with fail
  clear JA Jy Jv Jt Jr Jp Jn Jl Jj Jh Jf;clear VC VA Vy Vv Vt Vr Vp Vn Vl Vg Ve;generalize WJ:uL.alloc (.cells #[.int .i64 k13,.string t13,.int .i64 a13,.int .i64 z13,.slice A13 n13 c13] 24)=xH
  have dO:Below uL.heap.size uL xH:=by rw[<- WJ];exact ag _ _
  have X13:gX xH _ uL.heap.size _ (.int .i64 k13) (.string t13) (.int .i64 a13) (.int .i64 z13) (.slice A13 n13 c13):=⟨by rw[<- WJ];exact ai.new uL _ _,aB.keeps (bW.of_below dO) _ _ ru⟩
  have hs14:xH.heap.size=uL.heap.size+1:=by rw[<- WJ];simp
  have yR:=pR.below dO;have vI:=lI.below dO lI.lt;have R5:=Gp.trans (PM.of_below dO);replace X8:=X8.below dO
  replace xA:=xA.below dO
  obtain⟨v14,MX⟩:∃vv,vv=v13:=⟨_,rfl⟩
  have Xh:=Ew;rw[<- MX]at yR R5 Xh;try rw[<- hs14]
  clear MX WJ ru hs14;have HK15:=kH (yG X8.2 xA.2 X13.2 (by have:=vI.lt;omega));generalize JU:xH.alloc (.cells #[.int .i64 k8,.string t8,.int .i64 a8,.int .i64 z8,.slice A8 n8 c8,.int .i64 k11,.string t11,.int .i64 Mi,.int .i64 Kr,.slice BX n11 c11,.int .i64 k13,.string t13,.int .i64 a13,.int .i64 z13,.slice A13 n13 c13] 24)=Hl at HK15⊢
  have pQ:Below xH.heap.size xH Hl:=by rw[<- JU];exact ag _ _
  have EM:=yR.below pQ;have WM:=vI.below pQ vI.lt;have Zp:=R5.trans (PM.of_below pQ);obtain⟨v15,QN⟩:∃vv,vv=v14:=⟨_,rfl⟩
  have R9:=Xh;rw[<- QN]at EM Zp R9;clear QN JU;refine(dP E hE v15 _ EM v.st.k 16 (cK E.bs E.l (ay E.l v.st)) (w.heap.size+1) (some ⟨xH.heap.size,0,none⟩) 3 3 [x8,ED,x13] HK15.out).mono ?_;rintro e w16 ⟨rfl,aaU,hT16⟩;have h16:=EM.below aaU;have Ei:=WM.below aaU WM.lt;obtain⟨⟨r0,r1,r2,r3,r4⟩,g0,g1,g2,g3,g4⟩:=Ei.five;go_wp2_with fail
  have aO:=kH (bJ (v:=v) h16 (Zp.trans (PM.of_below aaU)) rfl Ei hgl hT16);clear hT16;refine bodyPost_ret (v:=.agg #[.int .i64 16,.string (aX (cK E.bs E.l (ay E.l v.st))),.int .i64 (bO E.l v15.st v.st.k [x8,ED,x13]),.int .i64 (v15.st.last:Int),.slice (some ⟨xH.heap.size,0,none⟩) 3 3]) (by simp[results,Tryz.results74,go_sem,r0,r1,r2,r3,r4]) rfl ?_;exact Eq.mp (congrArg (fun r=>bB E w v r _ _) (show(aH E.l v15.st v.st.k 16 (cK E.bs E.l (ay E.l v.st)) [x8,ED,x13],v15.st)=_ by rw[aM.out,R9.out])) aO.out
 have hR2:=HR.out;rw[sV.out,if_neg (by simp)]at hR2;replace HR:=kH hR2
 clear hR2;refine(qE E hE v4 _ h4 ja.out [102,111,114] sV.out).mono ?_;rintro e w5 ⟨rfl,v5,hv5,h5,iA⟩;have HV5:=kH hv5;have fw:=iA.blk h4 dX;have P5:=P4.trans iA;clear hv5 iA;go_wp2_with fail
 cases b5
 case true=>
  have hR2:=HR.out;rw[jb.out,if_pos rfl]at hR2;obtain⟨b7,dB⟩:∃x,DJ E.bs E.l (ay E.l v.st)=x:=⟨_,rfl⟩
  have gN:=kH dB;obtain⟨b8,dW⟩:∃x,bE E.bs E.l (ay E.l v.st) [110,111,116]=x:=⟨_,rfl⟩
  have uP:=kH dW;obtain⟨b9,fA⟩:∃x,bE E.bs E.l (ay E.l v.st) [45]=x:=⟨_,rfl⟩
  have zz:=kH fA;replace HR:=kH hR2
  clear hR2 dB dW fA;refine(oU E hE v5 _ h5 HV5.out [114,101,116,117,114,110] jb.out).mono ?_;rintro e w6 ⟨rfl,v6,hv6,h6,gQ⟩;have ll:=kH hv6;have gD:=gQ.blk h5 fw;have P6:=P5.trans gQ;clear hv6 gQ;have hk2:w6.cell? ⟨E.gp,2,none⟩=some (.int .i64 (v6.st.k:Int)):=h6.blk.cell 2;go_wp2_with fail
  refine(iG E hE v6 _ h6 v6.st.k 0 [] (w.heap.size+1)).mono ?_;rintro e w7 ⟨rfl,dB,kY⟩;have h7:=h6.below dB;have eZ:=gD.below dB gD.lt;have P7:=P6.trans (PM.of_below dB);clear hk2 dB;go_wp2_with fail
  generalize nQ:w7.alloc (.cells #[.int .i64 0,.string (aX []),.int .i64 (bO E.l v6.st v6.st.k []),.int .i64 (v6.st.last:Int),.slice none 0 0] 24)=w8
  have dW:Below w7.heap.size w7 w8:=by rw[<- nQ];exact ag _ _
  have X8:gX w8 _ w7.heap.size (aH E.l v6.st v6.st.k 0 [] []) (.int .i64 0) (.string (aX [])) (.int .i64 (bO E.l v6.st v6.st.k [])) (.int .i64 (v6.st.last:Int)) (.slice none 0 0):=⟨by rw[<- nQ];exact ai.new w7 _ _,aB.keeps (bW.of_below dW) _ _ kY⟩
  have h8:=h7.below dW;have eB:=eZ.below dW eZ.lt;have P8:=P7.trans (PM.of_below dW);have hlt7:=eZ.lt;obtain⟨v8,dV⟩:∃vv,vv=v6:=⟨_,rfl⟩
  have gL:=ll;rw[<- dV]at h8 P8 gL;clear dV nQ kY;refine(VG E hE v8 _ h8 gL.out gN.out).mono ?_;rintro e w9 ⟨rfl,v9,gV,h9,fU⟩;have jZ:=kH gV;have eY:=fU.blk h8 eB;have P9:=P8.trans fU;replace X8:=X8.pm fU h8
  clear gV fU;cases b7
  case true=>
   obtain⟨x7,q7,hx,hrq⟩:∃x q1,aN E.bs E.l f (.expr 1) (ay E.l v.st)=some ([x],q1)/\(t,q)=(aH E.l (aI E.bs E.l q1 [59]) v.st.k 17 [] [x],aI E.bs E.l q1 [59]):=by
    have:=HR.out;rw[if_pos (by simp[gN.out])]at this;obtain⟨x,p,h1,h2⟩:=eT this;simp at h2;exact⟨x,p,h1,by rw[<- h2.1,<- h2.2]⟩
   have HX:=kH hx;have aM:=kH hrq;clear hx hrq HR;have hcall:=HA.out.expr 1 v9 w9 x7 q7 h9 (by omega) (by omega) (by rw[jZ.out];exact HX.out);have HC:=kH hcall;have hgI:=X8.1.lt;clear hcall;go_wp2_with fail
   refine(HC.out).mono ?_;rintro e CJ ⟨rT,t31,a31,z31,rZ,n31,c31,rfl,mi,v31,hv31,h31,mQ⟩;try dsimp only at hv31 mi
   have Ev:=kH hv31;have xg:=mQ.blk h9 eY;have Mk:=P9.trans mQ;replace mi:=aB.weak (Q:=fun g=>w.heap.size+1<=g/\g≠w7.heap.size) (fun g _ hg=>⟨abF eY.lt hg,by omega⟩) _ _ mi
   have oO:=mQ.blk h9 X8.1;obtain⟨⟨q0,q1',q2,q3,q4⟩,Ia,H7,Hz,Hy,Hw⟩:=oO.five;have D9:=oO.lt;clear hv31 mQ X8;go_wp2_with fail
   obtain⟨h32,zu,xh,pK⟩:=vQ h31 Mk oO (by omega) (.int .i64 rT) (.string t31) (.int .i64 a31) (.int .i64 z31) (.slice rZ n31 c31);have vH:=xg.keep (pK w.heap.size _ (by omega) xg);have oH:gX _ _ _ _ (.int .i64 rT) (.string t31) (.int .i64 a31) (.int .i64 z31) (.slice rZ n31 c31):=⟨xh,aB.keeps (w':=ek CJ w7.heap.size (.int .i64 rT) (.string t31) (.int .i64 a31) (.int .i64 z31) (.slice rZ n31 c31)) (fun g cs hP hc=>pK g cs hP.2 hc) _ _ mi⟩
   obtain⟨v32,hv32⟩:∃vv,vv=v31:=⟨_,rfl⟩
   have xB:=Ev;rw[<- hv32]at h32 zu xB;clear hv32 xh pK mi oO q0 q1' q2 q3 q4 Ia H7 Hz Hy Hw D9;refine(jS E hE v32 _ h32 xB.out [59]).mono ?_;rintro e uV ⟨rfl,v33,wP,Df,wU⟩;have Be:=kH wP;have uh:=wU.blk h32 vH;have Gm:=zu.trans wU;replace oH:=oH.pm wU h32
   clear wP wU;obtain⟨⟨K3,KZ,KY,KV,KU⟩,KT,KS,KR,KQ,KO⟩:=oH.1.five;have KN:=oH.1.lt;go_wp2_with fail
   clear K3 KZ KY KV KU KT KS KR KQ KO KN;replace oH:=oH.weak (Q:=fun g=>w.heap.size+1<=g) (fun g _ hp=>hp.1)
   have Gy:=kH (jP oH.2 (by have:=uh.lt;omega));generalize FV:uV.alloc (.cells #[.int .i64 rT,.string t31,.int .i64 a31,.int .i64 z31,.slice rZ n31 c31] 24)=Pj at Gy⊢
   have oz:Below uV.heap.size uV Pj:=by rw[<- FV];exact ag _ _
   have AU:=Df.below oz;have xe:=uh.below oz uh.lt;have Ou:=Gm.trans (PM.of_below oz);obtain⟨v34,hv34⟩:∃vv,vv=v33:=⟨_,rfl⟩
   have Gs:=Be;rw[<- hv34]at AU Ou Gs;clear hv34 FV;refine(dP E hE v34 _ AU v.st.k 17 [] (w.heap.size+1) (some ⟨uV.heap.size,0,none⟩) 1 1 [x7] Gy.out).mono ?_;rintro e w35 ⟨rfl,wW,FY⟩;have uN:=AU.below wW;have FZ:=xe.below wW xe.lt;obtain⟨⟨r0,r1,r2,r3,r4⟩,g0,g1,g2,g3,g4⟩:=FZ.five;go_wp2_with fail
   have aO:=kH (bJ (v:=v) uN (Ou.trans (PM.of_below wW)) rfl FZ hgl FY);clear FY;refine bodyPost_ret (v:=.agg #[.int .i64 17,.string (aX []),.int .i64 (bO E.l v34.st v.st.k [x7]),.int .i64 (v34.st.last:Int),.slice (some ⟨uV.heap.size,0,none⟩) 1 1]) (by simp[results,Tryz.results74,go_sem,r0,r1,r2,r3,r4]) rfl ?_;exact Eq.mp (congrArg (fun r=>bB E w v r _ _) (show(aH E.l v34.st v.st.k 17 [] [x7],v34.st)=_ by rw[aM.out,Gs.out])) aO.out
  go_wp2_with fail
  refine(BF E hE v9 _ h9 jZ.out [110,111,116] uP.out).mono ?_;rintro e bA ⟨rfl,v10,fZ,h10,eH⟩;have iX:=kH fZ;have dK:=eH.blk h9 eY;have jG:=P9.trans eH;replace X8:=X8.pm eH h9
  clear fZ eH;cases b8
  case true=>
   obtain⟨x7,q7,hx,hrq⟩:∃x q1,aN E.bs E.l f (.expr 1) (ay E.l v.st)=some ([x],q1)/\(t,q)=(aH E.l (aI E.bs E.l q1 [59]) v.st.k 17 [] [x],aI E.bs E.l q1 [59]):=by
    have:=HR.out;rw[if_pos (by simp[uP.out])]at this;obtain⟨x,p,h1,h2⟩:=eT this;simp at h2;exact⟨x,p,h1,by rw[<- h2.1,<- h2.2]⟩
   have HX:=kH hx;have aM:=kH hrq;clear hx hrq HR;have hcall:=HA.out.expr 1 v10 bA x7 q7 h10 (by omega) (by omega) (by rw[iX.out];exact HX.out);have HC:=kH hcall;have hgI:=X8.1.lt;clear hcall;go_wp2_with fail
   refine(HC.out).mono ?_;rintro e CJ ⟨rT,t31,a31,z31,rZ,n31,c31,rfl,mi,v31,hv31,h31,mQ⟩;try dsimp only at hv31 mi
   have Ev:=kH hv31;have xg:=mQ.blk h10 dK;have Mk:=jG.trans mQ;replace mi:=aB.weak (Q:=fun g=>w.heap.size+1<=g/\g≠w7.heap.size) (fun g _ hg=>⟨abF dK.lt hg,by omega⟩) _ _ mi
   have oO:=mQ.blk h10 X8.1;obtain⟨⟨q0,q1',q2,q3,q4⟩,Ia,H7,Hz,Hy,Hw⟩:=oO.five;have D9:=oO.lt;clear hv31 mQ X8;go_wp2_with fail
   obtain⟨h32,zu,xh,pK⟩:=vQ h31 Mk oO (by omega) (.int .i64 rT) (.string t31) (.int .i64 a31) (.int .i64 z31) (.slice rZ n31 c31);have vH:=xg.keep (pK w.heap.size _ (by omega) xg);have oH:gX _ _ _ _ (.int .i64 rT) (.string t31) (.int .i64 a31) (.int .i64 z31) (.slice rZ n31 c31):=⟨xh,aB.keeps (w':=ek CJ w7.heap.size (.int .i64 rT) (.string t31) (.int .i64 a31) (.int .i64 z31) (.slice rZ n31 c31)) (fun g cs hP hc=>pK g cs hP.2 hc) _ _ mi⟩
   obtain⟨v32,hv32⟩:∃vv,vv=v31:=⟨_,rfl⟩
   have xB:=Ev;rw[<- hv32]at h32 zu xB;clear hv32 xh pK mi oO q0 q1' q2 q3 q4 Ia H7 Hz Hy Hw D9;refine(jS E hE v32 _ h32 xB.out [59]).mono ?_;rintro e uV ⟨rfl,v33,wP,Df,wU⟩;have Be:=kH wP;have uh:=wU.blk h32 vH;have Gm:=zu.trans wU;replace oH:=oH.pm wU h32
   clear wP wU;obtain⟨⟨K3,KZ,KY,KV,KU⟩,KT,KS,KR,KQ,KO⟩:=oH.1.five;have KN:=oH.1.lt;go_wp2_with fail
   clear K3 KZ KY KV KU KT KS KR KQ KO KN;replace oH:=oH.weak (Q:=fun g=>w.heap.size+1<=g) (fun g _ hp=>hp.1)
   have Gy:=kH (jP oH.2 (by have:=uh.lt;omega));generalize FV:uV.alloc (.cells #[.int .i64 rT,.string t31,.int .i64 a31,.int .i64 z31,.slice rZ n31 c31] 24)=Pj at Gy⊢
   have oz:Below uV.heap.size uV Pj:=by rw[<- FV];exact ag _ _
   have AU:=Df.below oz;have xe:=uh.below oz uh.lt;have Ou:=Gm.trans (PM.of_below oz);obtain⟨v34,hv34⟩:∃vv,vv=v33:=⟨_,rfl⟩
   have Gs:=Be;rw[<- hv34]at AU Ou Gs;clear hv34 FV;refine(dP E hE v34 _ AU v.st.k 17 [] (w.heap.size+1) (some ⟨uV.heap.size,0,none⟩) 1 1 [x7] Gy.out).mono ?_;rintro e w35 ⟨rfl,wW,FY⟩;have uN:=AU.below wW;have FZ:=xe.below wW xe.lt;obtain⟨⟨r0,r1,r2,r3,r4⟩,g0,g1,g2,g3,g4⟩:=FZ.five;go_wp2_with fail
   have aO:=kH (bJ (v:=v) uN (Ou.trans (PM.of_below wW)) rfl FZ hgl FY);clear FY;refine bodyPost_ret (v:=.agg #[.int .i64 17,.string (aX []),.int .i64 (bO E.l v34.st v.st.k [x7]),.int .i64 (v34.st.last:Int),.slice (some ⟨uV.heap.size,0,none⟩) 1 1]) (by simp[results,Tryz.results74,go_sem,r0,r1,r2,r3,r4]) rfl ?_;exact Eq.mp (congrArg (fun r=>bB E w v r _ _) (show(aH E.l v34.st v.st.k 17 [] [x7],v34.st)=_ by rw[aM.out,Gs.out])) aO.out
  go_wp2_with fail
  refine(BF E hE v10 _ h10 iX.out [45] zz.out).mono ?_;rintro e ji ⟨rfl,v11,lG,h11,nP⟩;have mR:=kH lG;have jc:=nP.blk h10 dK;have rE:=jG.trans nP;replace X8:=X8.pm nP h10
  clear lG nP;cases b9
  case true=>
   obtain⟨x7,q7,hx,hrq⟩:∃x q1,aN E.bs E.l f (.expr 1) (ay E.l v.st)=some ([x],q1)/\(t,q)=(aH E.l (aI E.bs E.l q1 [59]) v.st.k 17 [] [x],aI E.bs E.l q1 [59]):=by
    have:=HR.out;rw[if_pos (by simp[zz.out])]at this;obtain⟨x,p,h1,h2⟩:=eT this;simp at h2;exact⟨x,p,h1,by rw[<- h2.1,<- h2.2]⟩
   have HX:=kH hx;have aM:=kH hrq;clear hx hrq HR;have hcall:=HA.out.expr 1 v11 ji x7 q7 h11 (by omega) (by omega) (by rw[mR.out];exact HX.out);have HC:=kH hcall;have hgI:=X8.1.lt;clear hcall;go_wp2_with fail
   refine(HC.out).mono ?_;rintro e CJ ⟨rT,t31,a31,z31,rZ,n31,c31,rfl,mi,v31,hv31,h31,mQ⟩;try dsimp only at hv31 mi
   have Ev:=kH hv31;have xg:=mQ.blk h11 jc;have Mk:=rE.trans mQ;replace mi:=aB.weak (Q:=fun g=>w.heap.size+1<=g/\g≠w7.heap.size) (fun g _ hg=>⟨abF jc.lt hg,by omega⟩) _ _ mi
   have oO:=mQ.blk h11 X8.1;obtain⟨⟨q0,q1',q2,q3,q4⟩,Ia,H7,Hz,Hy,Hw⟩:=oO.five;have D9:=oO.lt;clear hv31 mQ X8;go_wp2_with fail
   obtain⟨h32,zu,xh,pK⟩:=vQ h31 Mk oO (by omega) (.int .i64 rT) (.string t31) (.int .i64 a31) (.int .i64 z31) (.slice rZ n31 c31);have vH:=xg.keep (pK w.heap.size _ (by omega) xg);have oH:gX _ _ _ _ (.int .i64 rT) (.string t31) (.int .i64 a31) (.int .i64 z31) (.slice rZ n31 c31):=⟨xh,aB.keeps (w':=ek CJ w7.heap.size (.int .i64 rT) (.string t31) (.int .i64 a31) (.int .i64 z31) (.slice rZ n31 c31)) (fun g cs hP hc=>pK g cs hP.2 hc) _ _ mi⟩
   obtain⟨v32,hv32⟩:∃vv,vv=v31:=⟨_,rfl⟩
   have xB:=Ev;rw[<- hv32]at h32 zu xB;clear hv32 xh pK mi oO q0 q1' q2 q3 q4 Ia H7 Hz Hy Hw D9;refine(jS E hE v32 _ h32 xB.out [59]).mono ?_;rintro e uV ⟨rfl,v33,wP,Df,wU⟩;have Be:=kH wP;have uh:=wU.blk h32 vH;have Gm:=zu.trans wU;replace oH:=oH.pm wU h32
   clear wP wU;obtain⟨⟨K3,KZ,KY,KV,KU⟩,KT,KS,KR,KQ,KO⟩:=oH.1.five;have KN:=oH.1.lt;go_wp2_with fail
   clear K3 KZ KY KV KU KT KS KR KQ KO KN;replace oH:=oH.weak (Q:=fun g=>w.heap.size+1<=g) (fun g _ hp=>hp.1)
   have Gy:=kH (jP oH.2 (by have:=uh.lt;omega));generalize FV:uV.alloc (.cells #[.int .i64 rT,.string t31,.int .i64 a31,.int .i64 z31,.slice rZ n31 c31] 24)=Pj at Gy⊢
   have oz:Below uV.heap.size uV Pj:=by rw[<- FV];exact ag _ _
   have AU:=Df.below oz;have xe:=uh.below oz uh.lt;have Ou:=Gm.trans (PM.of_below oz);obtain⟨v34,hv34⟩:∃vv,vv=v33:=⟨_,rfl⟩
   have Gs:=Be;rw[<- hv34]at AU Ou Gs;clear hv34 FV;refine(dP E hE v34 _ AU v.st.k 17 [] (w.heap.size+1) (some ⟨uV.heap.size,0,none⟩) 1 1 [x7] Gy.out).mono ?_;rintro e w35 ⟨rfl,wW,FY⟩;have uN:=AU.below wW;have FZ:=xe.below wW xe.lt;obtain⟨⟨r0,r1,r2,r3,r4⟩,g0,g1,g2,g3,g4⟩:=FZ.five;go_wp2_with fail
   have aO:=kH (bJ (v:=v) uN (Ou.trans (PM.of_below wW)) rfl FZ hgl FY);clear FY;refine bodyPost_ret (v:=.agg #[.int .i64 17,.string (aX []),.int .i64 (bO E.l v34.st v.st.k [x7]),.int .i64 (v34.st.last:Int),.slice (some ⟨uV.heap.size,0,none⟩) 1 1]) (by simp[results,Tryz.results74,go_sem,r0,r1,r2,r3,r4]) rfl ?_;exact Eq.mp (congrArg (fun r=>bB E w v r _ _) (show(aH E.l v34.st v.st.k 17 [] [x7],v34.st)=_ by rw[aM.out,Gs.out])) aO.out
  have aM:Hid ((t,q)=(aH E.l (aI E.bs E.l (ay E.l v.st) [59]) v.st.k 17 [] [aH E.l v6.st v6.st.k 0 [] []],aI E.bs E.l (ay E.l v.st) [59])):=kH (by
   have:=HR.out;rw[if_neg (by rw[gN.out,uP.out,zz.out];simp)]at this;simp at this
   rw[ll.out,<- this.1,<- this.2])
  clear HR;go_wp2_with fail
  refine(jS E hE v11 _ h11 mR.out [59]).mono ?_;rintro e mJ ⟨rfl,v12,kI,h12,iH⟩;have nA:=kH kI;have iW:=iH.blk h11 jc;have mO:=rE.trans iH;replace X8:=X8.pm iH h11
  clear kI iH;obtain⟨⟨JA,Jy,Jv,Jt,Jr⟩,Jp,Jn,Jl,Jj,Jh⟩:=X8.1.five;have Jf:=X8.1.lt;go_wp2_with fail
  clear JA Jy Jv Jt Jr Jp Jn Jl Jj Jh Jf;have Sm:=kH (jP X8.2 (by have:=iW.lt;omega));generalize Rm:mJ.alloc (.cells #[.int .i64 0,.string (aX []),.int .i64 (bO E.l v6.st v6.st.k []),.int .i64 (v6.st.last:Int),.slice none 0 0] 24)=uL at Sm⊢
  have ic:Below mJ.heap.size mJ uL:=by rw[<- Rm];exact ag _ _
  have pR:=h12.below ic;have lI:=iW.below ic iW.lt;have Gp:=mO.trans (PM.of_below ic);obtain⟨v13,y9⟩:∃vv,vv=v12:=⟨_,rfl⟩
  have Ew:=nA;rw[<- y9]at pR Gp Ew;clear y9 Rm;refine(dP E hE v13 _ pR v.st.k 17 [] (w.heap.size+1) (some ⟨mJ.heap.size,0,none⟩) 1 1 [aH E.l v6.st v6.st.k 0 [] []] Sm.out).mono ?_;rintro e xH ⟨rfl,dO,AR⟩;have yR:=pR.below dO;have vI:=lI.below dO lI.lt;obtain⟨⟨r0,r1,r2,r3,r4⟩,g0,g1,g2,g3,g4⟩:=vI.five;go_wp2_with fail
  have aO:=kH (bJ (v:=v) yR (Gp.trans (PM.of_below dO)) rfl vI hgl AR);clear AR;refine bodyPost_ret (v:=.agg #[.int .i64 17,.string (aX []),.int .i64 (bO E.l v13.st v.st.k [aH E.l v6.st v6.st.k 0 [] []]),.int .i64 (v13.st.last:Int),.slice (some ⟨mJ.heap.size,0,none⟩) 1 1]) (by simp[results,Tryz.results74,go_sem,r0,r1,r2,r3,r4]) rfl ?_;exact Eq.mp (congrArg (fun r=>bB E w v r _ _) (show(aH E.l v13.st v.st.k 17 [] [aH E.l v6.st v6.st.k 0 [] []],v13.st)=_ by rw[aM.out,Ew.out])) aO.out
 have hR2:=HR.out;rw[jb.out,if_neg (by simp)]at hR2;replace HR:=kH hR2
 clear hR2;refine(qE E hE v5 _ h5 HV5.out [114,101,116,117,114,110] jb.out).mono ?_;rintro e w6 ⟨rfl,v6,hv6,h6,gQ⟩;have ll:=kH hv6;have gD:=gQ.blk h5 fw;have P6:=P5.trans gQ;clear hv6 gQ;go_wp2_with fail
 cases b6
 case true=>
  obtain⟨x7,q7,hx,hrq⟩:∃x q1,aN E.bs E.l f (.expr 1) (ay E.l v.st)=some ([x],q1)/\(t,q)=(aH E.l (aI E.bs E.l q1 [59]) v.st.k 18 [] [x],aI E.bs E.l q1 [59]):=by
   have:=HR.out;rw[mP.out,if_pos rfl]at this;obtain⟨x,p,h1,h2⟩:=eT this;simp at h2;exact⟨x,p,h1,by rw[<- h2.1,<- h2.2]⟩
  have HX:=kH hx;have aM:=kH hrq;clear hx hrq HR;refine(oU E hE v6 _ h6 ll.out [97,115,115,101,114,116] mP.out).mono ?_;rintro e w7 ⟨rfl,v7,hv7,h7,iV⟩;have lh:=kH hv7;have eZ:=iV.blk h6 gD;have P7:=P6.trans iV;clear hv7 iV;have hcall:=HA.out.expr 1 v7 w7 x7 q7 h7 (by omega) (by omega) (by rw[lh.out];exact HX.out);have HC:=kH hcall;clear hcall;go_wp2_with fail
  refine(HC.out).mono ?_;rintro e w8 ⟨k8,t8,a8,z8,A8,n8,c8,rfl,rX,v8,dV,h8,dS⟩;try dsimp only at dV rX
  have gL:=kH dV;have eB:=dS.blk h7 eZ;have P8:=P7.trans dS;replace rX:=aB.weak (Q:=fun g=>w.heap.size+1<=g) (fun g _ hg=>abF eZ.lt hg) _ _ rX
  clear dV dS;go_wp2_with fail
  generalize qA:w8.alloc (.cells #[.int .i64 k8,.string t8,.int .i64 a8,.int .i64 z8,.slice A8 n8 c8] 24)=w9
  have fA:Below w8.heap.size w8 w9:=by rw[<- qA];exact ag _ _
  have X8:gX w9 _ w8.heap.size _ (.int .i64 k8) (.string t8) (.int .i64 a8) (.int .i64 z8) (.slice A8 n8 c8):=⟨by rw[<- qA];exact ai.new w8 _ _,aB.keeps (bW.of_below fA) _ _ rX⟩
  have Db:w9.heap.size=w8.heap.size+1:=by rw[<- qA];simp
  have h9:=h8.below fA;have eY:=eB.below fA eB.lt;have P9:=P8.trans (PM.of_below fA);obtain⟨v9,gV⟩:∃vv,vv=v8:=⟨_,rfl⟩
  have jZ:=gL;rw[<- gV]at h9 P9 jZ;try rw[<- Db]
  clear gV qA rX Db;refine(jS E hE v9 _ h9 jZ.out [59]).mono ?_;rintro e bA ⟨rfl,v10,fZ,h10,eH⟩;have iX:=kH fZ;have dK:=eH.blk h9 eY;have jG:=P9.trans eH;replace X8:=X8.pm eH h9
  clear fZ eH;obtain⟨⟨JA,Jy,Jv,Jt,Jr⟩,Jp,Jn,Jl,Jj,Jh⟩:=X8.1.five;have Jf:=X8.1.lt;go_wp2_with fail
  clear JA Jy Jv Jt Jr Jp Jn Jl Jj Jh Jf;have Gz:=kH (jP X8.2 (by have:=dK.lt;omega));generalize ug:bA.alloc (.cells #[.int .i64 k8,.string t8,.int .i64 a8,.int .i64 z8,.slice A8 n8 c8] 24)=ji at Gz⊢
  have ig:Below bA.heap.size bA ji:=by rw[<- ug];exact ag _ _
  have h11:=h10.below ig;have jc:=dK.below ig dK.lt;have rE:=jG.trans (PM.of_below ig);obtain⟨v11,lG⟩:∃vv,vv=v10:=⟨_,rfl⟩
  have mR:=iX;rw[<- lG]at h11 rE mR;clear lG ug;refine(dP E hE v11 _ h11 v.st.k 18 [] (w.heap.size+1) (some ⟨bA.heap.size,0,none⟩) 1 1 [x7] Gz.out).mono ?_;rintro e mJ ⟨rfl,sJ,hT12⟩;have h12:=h11.below sJ;have iW:=jc.below sJ jc.lt;obtain⟨⟨r0,r1,r2,r3,r4⟩,g0,g1,g2,g3,g4⟩:=iW.five;go_wp2_with fail
  have aO:=kH (bJ (v:=v) h12 (rE.trans (PM.of_below sJ)) rfl iW hgl hT12);clear hT12;refine bodyPost_ret (v:=.agg #[.int .i64 18,.string (aX []),.int .i64 (bO E.l v11.st v.st.k [x7]),.int .i64 (v11.st.last:Int),.slice (some ⟨bA.heap.size,0,none⟩) 1 1]) (by simp[results,Tryz.results74,go_sem,r0,r1,r2,r3,r4]) rfl ?_;exact Eq.mp (congrArg (fun r=>bB E w v r _ _) (show(aH E.l v11.st v.st.k 18 [] [x7],v11.st)=_ by rw[aM.out,mR.out])) aO.out
 have hR2:=HR.out;rw[mP.out,if_neg (by simp)]at hR2;replace HR:=kH hR2
 clear hR2;refine(qE E hE v6 _ h6 ll.out [97,115,115,101,114,116] mP.out).mono ?_;rintro e w7 ⟨rfl,v7,hv7,h7,iV⟩;have lh:=kH hv7;have eZ:=iV.blk h6 gD;have P7:=P6.trans iV;clear hv7 iV;go_wp2_with fail
 refine(vT E hE v7 _ h7 lh.out HK.out).mono ?_;rintro e w8 ⟨rfl,v8,dV,h8,dS⟩;have gL:=kH dV;have eB:=dS.blk h7 eZ;have P8:=P7.trans dS;clear dV dS;by_cases hk0:k=0
 ·subst hk0
  obtain⟨x,hx⟩:∃x,og E.bs E.l v.st=x:=⟨_,rfl⟩
  have HX:=kH hx;clear hx;go_wp2_with fail
  refine(Om E hE v8 _ h8 gL.out HX.out).mono ?_;rintro e w9 ⟨rfl,v9,gV,h9,fU⟩;have jZ:=kH gV;have eY:=fU.blk h8 eB;have P9:=P8.trans fU;clear gV fU;by_cases za:x=[40]
  ·subst za
   obtain⟨kids,q1,hy,hrq⟩:∃kids q1,aN E.bs E.l f .args (ay E.l v.st)=some (kids,q1)/\(t,q)=(aH E.l (aI E.bs E.l q1 [59]) v.st.k 19 (bK E.bs E.l v.st.k) kids,aI E.bs E.l q1 [59]):=by
    have:=HR.out;rw[if_pos (by rw[HK.out,HX.out];simp)]at this;obtain⟨ks,p,h1,h2⟩:=vS this;simp at h2;exact⟨ks,p,h1,by rw[<- h2.1,<- h2.2]⟩
   have HY:=kH hy;have aM:=kH hrq;have e40:aX [40]=⟨#[40]⟩:=rfl;rw[e40];clear hy hrq e40;go_wp2_with fail
   refine(vR E hE v9 _ h9 jZ.out (by rw[HK.out];decide)).mono ?_;rintro e bA ⟨rfl,v10,fZ,h10,eH⟩;have iX:=kH fZ;have dK:=eH.blk h9 eY;have jG:=P9.trans eH;clear fZ eH;have hcall:=HA.out.args v10 bA kids q1 h10 (by rw[iX.out];exact Gj hE.empty HX.out) (by rw[iX.out];exact HY.out);have HC:=kH hcall;clear hcall;go_wp2_with fail
   refine HC.out.mono ?_;rintro e ji ⟨BX,n11,c11,rfl,hK11,v11,lG,h11,nP⟩;have mR:=kH lG;have jc:=nP.blk h10 dK;have rE:=jG.trans nP;have Gz:=kH (hK11.low (lo':=w.heap.size+1) dK.lt);clear lG nP hK11;go_wp2_with fail
   refine(jS E hE v11 _ h11 mR.out [59]).mono ?_;rintro e mJ ⟨rfl,v12,kI,h12,iH⟩;have nA:=kH kI;have iW:=iH.blk h11 jc;have mO:=rE.trans iH;have oV:=kH (Gz.out.keeps (iH.dR h11));clear kI iH;go_wp2_with fail
   refine(dP E hE v12 _ h12 v.st.k 19 (bK E.bs E.l v.st.k) (w.heap.size+1) BX n11 c11 kids oV.out).mono ?_;rintro e uL ⟨rfl,ic,ru⟩;have pR:=h12.below ic;have lI:=iW.below ic iW.lt;obtain⟨⟨r0,r1,r2,r3,r4⟩,g0,g1,g2,g3,g4⟩:=lI.five;go_wp2_with fail
   have aO:=kH (bJ (v:=v) pR (mO.trans (PM.of_below ic)) rfl lI hgl ru);clear ru;refine bodyPost_ret (v:=.agg #[.int .i64 19,.string (aX (bK E.bs E.l v.st.k)),.int .i64 (bO E.l v12.st v.st.k kids),.int .i64 (v12.st.last:Int),.slice BX n11 c11]) (by simp[results,Tryz.results74,go_sem,r0,r1,r2,r3,r4]) rfl ?_;exact Eq.mp (congrArg (fun r=>bB E w v r _ _) (show(aH E.l v12.st v.st.k 19 (bK E.bs E.l v.st.k) kids,v12.st)=_ by rw[aM.out,nA.out])) aO.out
  ·obtain⟨wd,hwd⟩:∃y,aX x=y:=⟨_,rfl⟩
   have hwf:(wd.data.toList==[40])=false:=by rw[<- hwd];simpa [aX] using za
   have hwf2:(wd.toList==[40])=false:=by rw[ByteArray.toList_eq];exact hwf
   rw[hwd]
   obtain⟨ED,Ib,x14,q14,hx,hy,hrq⟩:∃x q1 y q2,aN E.bs E.l f .place v.st=some ([x],q1)/\aN E.bs E.l f (.expr 1) (aI E.bs E.l q1 [61])=some ([y],q2)/\(t,q)=(aH E.l (aI E.bs E.l q2 [59]) v.st.k 13 [] [x,y],aI E.bs E.l q2 [59]):=by
    have:=HR.out;rw[if_neg (by rw[HK.out,HX.out];simp[za]),if_pos HK.out]at this;obtain⟨x,p,h1,h2⟩:=eT this;obtain⟨y,p2,h3,h4⟩:=eT h2;simp at h4;exact⟨x,p,y,p2,h1,h3,by rw[<- h4.1,<- h4.2]⟩
   have yU:=kH hx;have HY:=kH hy;have aM:=kH hrq;clear hx hy hrq HR hwd za;go_wp2_with fail
   refine(vT E hE v9 _ h9 jZ.out HK.out).mono ?_;rintro e bA ⟨rfl,v10,fZ,h10,eH⟩;have iX:=kH fZ;have dK:=eH.blk h9 eY;have jG:=P9.trans eH;clear fZ eH;have hcall:=HA.out.place v10 bA ED Ib h10 (by rw[iX.out];exact yU.out);have HC:=kH hcall;clear hcall;go_wp2_with fail
   refine(HC.out).mono ?_;rintro e ji ⟨k11,t11,Mi,Kr,BX,n11,c11,rfl,nR,v11,lG,h11,nP⟩;try dsimp only at lG nR
   have mR:=kH lG;have jc:=nP.blk h10 dK;have rE:=jG.trans nP;replace nR:=aB.weak (Q:=fun g=>w.heap.size+1<=g) (fun g _ hg=>abF dK.lt hg) _ _ nR
   clear lG nP;go_wp2_with fail
   generalize ze:ji.alloc (.cells #[.int .i64 k11,.string t11,.int .i64 Mi,.int .i64 Kr,.slice BX n11 c11] 24)=mJ
   have sJ:Below ji.heap.size ji mJ:=by rw[<- ze];exact ag _ _
   have xA:gX mJ _ ji.heap.size _ (.int .i64 k11) (.string t11) (.int .i64 Mi) (.int .i64 Kr) (.slice BX n11 c11):=⟨by rw[<- ze];exact ai.new ji _ _,aB.keeps (bW.of_below sJ) _ _ nR⟩
   have JK:mJ.heap.size=ji.heap.size+1:=by rw[<- ze];simp
   have h12:=h11.below sJ;have iW:=jc.below sJ jc.lt;have mO:=rE.trans (PM.of_below sJ);obtain⟨v12,kI⟩:∃vv,vv=v11:=⟨_,rfl⟩
   have nA:=mR;rw[<- kI]at h12 mO nA;try rw[<- JK]
   clear kI ze nR JK;refine(jS E hE v12 _ h12 nA.out [61]).mono ?_;rintro e uL ⟨rfl,v13,y9,pR,Cr⟩;have Ew:=kH y9;have lI:=Cr.blk h12 iW;have Gp:=mO.trans Cr;replace xA:=xA.pm Cr h12
   clear y9 Cr;have hcall:=HA.out.expr 1 v13 uL x14 q14 pR (by omega) (by omega) (by rw[Ew.out];exact HY.out);have uY:=kH hcall;clear hcall;go_wp2_with fail
   refine(uY.out).mono ?_;rintro e xH ⟨k14,t14,a14,z14,A14,n14,c14,rfl,AR,v14,MX,yR,Wu⟩;try dsimp only at MX AR
   have Xh:=kH MX;have vI:=Wu.blk pR lI;have R5:=Gp.trans Wu;replace AR:=aB.weak (Q:=fun g=>w.heap.size+1<=g) (fun g _ hg=>abF lI.lt hg) _ _ AR
   replace xA:=xA.pm Wu pR
   clear MX Wu;go_wp2_with fail
   generalize JU:xH.alloc (.cells #[.int .i64 k14,.string t14,.int .i64 a14,.int .i64 z14,.slice A14 n14 c14] 24)=Hl
   have pQ:Below xH.heap.size xH Hl:=by rw[<- JU];exact ag _ _
   have Zd:gX Hl _ xH.heap.size _ (.int .i64 k14) (.string t14) (.int .i64 a14) (.int .i64 z14) (.slice A14 n14 c14):=⟨by rw[<- JU];exact ai.new xH _ _,aB.keeps (bW.of_below pQ) _ _ AR⟩
   have hs15:Hl.heap.size=xH.heap.size+1:=by rw[<- JU];simp
   have EM:=yR.below pQ;have WM:=vI.below pQ vI.lt;have Zp:=R5.trans (PM.of_below pQ);replace xA:=xA.below pQ
   obtain⟨v15,QN⟩:∃vv,vv=v14:=⟨_,rfl⟩
   have R9:=Xh;rw[<- QN]at EM Zp R9;try rw[<- hs15]
   clear QN JU AR hs15;refine(jS E hE v15 _ EM R9.out [59]).mono ?_;rintro e w16 ⟨rfl,v16,hv16,h16,Q0⟩;have HV16:=kH hv16;have Ei:=Q0.blk EM WM;have Zo:=Zp.trans Q0;replace xA:=xA.pm Q0 EM
   replace Zd:=Zd.pm Q0 EM
   clear hv16 Q0;obtain⟨⟨VC,VA,Vy,Vv,Vt⟩,Vr,Vp,Vn,Vl,Vg⟩:=xA.1.five;have Ve:=xA.1.lt;obtain⟨⟨qaX14,qbX14,qcX14,qdX14,qeX14⟩,qgX14,qhX14,qiX14,qjX14,qkX14⟩:=Zd.1.five;have qlX14:=Zd.1.lt;go_wp2_with fail
   clear VC VA Vy Vv Vt Vr Vp Vn Vl Vg Ve;clear qaX14 qbX14 qcX14 qdX14 qeX14 qgX14 qhX14 qiX14 qjX14 qkX14 qlX14;have Nb:=kH (yH xA.2 Zd.2 (by have:=Ei.lt;omega));generalize hW17:w16.alloc (.cells #[.int .i64 k11,.string t11,.int .i64 Mi,.int .i64 Kr,.slice BX n11 c11,.int .i64 k14,.string t14,.int .i64 a14,.int .i64 z14,.slice A14 n14 c14] 24)=XB at Nb⊢
   have aaT:Below w16.heap.size w16 XB:=by rw[<- hW17];exact ag _ _
   have EL:=h16.below aaT;have F4:=Ei.below aaT Ei.lt;have Ml:=Zo.trans (PM.of_below aaT);obtain⟨v17,FM⟩:∃vv,vv=v16:=⟨_,rfl⟩
   have Kj:=HV16;rw[<- FM]at EL Ml Kj;clear FM hW17;refine(dP E hE v17 _ EL v.st.k 13 [] (w.heap.size+1) (some ⟨w16.heap.size,0,none⟩) 2 2 [ED,x14] Nb.out).mono ?_;rintro e w18 ⟨rfl,aaS,hT18⟩;have h18:=EL.below aaS;have F3:=F4.below aaS F4.lt;obtain⟨⟨r0,r1,r2,r3,r4⟩,g0,g1,g2,g3,g4⟩:=F3.five;go_wp2_with fail
   have aO:=kH (bJ (v:=v) h18 (Ml.trans (PM.of_below aaS)) rfl F3 hgl hT18);clear hT18;refine bodyPost_ret (v:=.agg #[.int .i64 13,.string (aX []),.int .i64 (bO E.l v17.st v.st.k [ED,x14]),.int .i64 (v17.st.last:Int),.slice (some ⟨w16.heap.size,0,none⟩) 2 2]) (by simp[results,Tryz.results74,go_sem,r0,r1,r2,r3,r4]) rfl ?_;exact Eq.mp (congrArg (fun r=>bB E w v r _ _) (show(aH E.l v17.st v.st.k 13 [] [ED,x14],v17.st)=_ by rw[aM.out,Kj.out])) aO.out
 have Wy:((k:Int)==0)=false:=by simp;omega
 have Wx:(k==0)=false:=by simp[hk0]
 have hsk:sw E.bs E.l f v.st=some (t,q):=by
  have:=HR.out;rw[if_neg (by rw[HK.out];simp[hk0]),if_neg (by rw[HK.out];exact hk0)]at this;split at this
  ·cases this
  ·rename_i x p h
   simp at this;rw[h,this.1,this.2]
 have Ux:=kH hsk;clear hsk hk0 HR;go_wp2_with fail
 refine(vT E hE v8 _ h8 gL.out HK.out).mono ?_;rintro e w9 ⟨rfl,v9,gV,h9,fU⟩;have jZ:=kH gV;have eY:=fU.blk h8 eB;have P9:=P8.trans fU;clear gV fU;have hcall:=SL E hE v9 w9 h9 f (t,q) (by rw[jZ.out];exact Ux.out);have HC:=kH hcall;clear hcall;go_wp2_with fail
 refine(HC.out).mono ?_;rintro e bA ⟨k10,t10,Bc,zV,oL,n10,c10,rfl,mq,v10,fZ,h10,eH⟩;try dsimp only at fZ mq
 have iX:=kH fZ;have dK:=eH.blk h9 eY;have jG:=P9.trans eH;replace mq:=aB.weak (Q:=fun g=>w.heap.size+1<=g) (fun g _ hg=>abF eY.lt hg) _ _ mq
 clear fZ eH;have aM:=trivial;obtain⟨⟨r0,r1,r2,r3,r4⟩,g0,g1,g2,g3,g4⟩:=dK.five;go_wp2_with fail
 have aO:=kH (bJ (v:=v) h10 jG rfl dK hgl mq);clear mq;rw[iX.out]at aO;refine bodyPost_ret (v:=.agg #[.int .i64 k10,.string t10,.int .i64 Bc,.int .i64 zV,.slice oL n10 c10]) (by simp[results,Tryz.results74,go_sem,r0,r1,r2,r3,r4]) rfl ?_;try rw[aM.out]
 exact aO.out
end Go.Proofs.YtoepemlnlpamlaaGreat
