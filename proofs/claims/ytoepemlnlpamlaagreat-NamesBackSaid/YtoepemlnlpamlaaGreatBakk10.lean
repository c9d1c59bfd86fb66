/- The law NamesBack holds for every text and every number: it returns true, and its arguments read as before. No condition. Part 10: ParI ParJ ParK ParL Step. -/
import Derived.Test.YtoepemlnlpamlaaGreatBakk09
set_option maxRecDepth 100000
set_option maxHeartbeats 4000000
namespace Go.Proofs.YtoepemlnlpamlaaGreat
open Go.RowKit
theorem XV(E:PE)(hE:E.Ok)(f:Nat)(IH:∀f',f'<=f->xN E f')(v:PV)(w:World)(t:aa)(q:PS)(hpw:PW w E v)(hr:aJ E.bs E.l (f+1) (.expr 3) v.st=some ([t],q)):Calls Tryz.prog 134 #[.pointer (some ⟨E.gp,0,none⟩),.int .i64 3] w (bq E w v (t,q)):=by
 rw[aJ,if_pos rfl]at hr;have HR:=kH hr;have eH:=kH IH;clear hr IH;have hgl:=hpw.blk.lt;have hk2:w.cell? ⟨E.gp,2,none⟩=some (.int .i64 (v.st.k:Int)):=hpw.blk.cell 2;go_enter Tryz.func134,Tryz.ntmps134
 go_wp2_with fail
 generalize hW1:w.alloc (.cells #[.int .i64 0,.string ⟨#[]⟩,.int .i64 0,.int .i64 0,.slice none 0 0] 24)=W1
 have hb1:Below w.heap.size w W1:=by rw[<- hW1];exact af _ _
 have eD:ai W1 w.heap.size 24 #[.int .i64 0,.string ⟨#[]⟩,.int .i64 0,.int .i64 0,.slice none 0 0]:=by rw[<- hW1];exact ai.new w _ _
 have hs1:W1.heap.size=w.heap.size+1:=by rw[<- hW1];simp
 have hm1:=PM.of_below (E:=E) (v:=v) hb1;have h1:=hpw.below hb1;have P1:=hm1;have nV:=kH hs1;have xq:=kH hm1;clear hW1 hs1 hm1 hb1;obtain⟨b0,hb0⟩:∃x,bB E.bs E.l v.st [110,111,116]=x:=⟨_,rfl⟩
 have HB0:=kH hb0;clear hb0 hk2;refine(fE E hE v [110,111,116] _ h1).mono ?_;rintro e w2 ⟨rfl,v2,hv2,h2,hm2⟩;rw[HB0.out];have gD:=kH hv2;have hR2:=hm2.blk h1 eD;have P2:=P1.trans hm2;clear hv2 hm2;cases b0
 ·have hst:v2.st=v.st:=by
   rw[gD.out];unfold bC;rw[HB0.out,if_neg (by simp)]
  have hx:aJ E.bs E.l f (.expr 4) v2.st=some ([t],q):=by
   have:=HR.out;rw[HB0.out,if_neg (by simp)]at this;rw[hst];exact this
  have hcall:=(eH.out f (aaD _)).expr 4 v2 w2 t q h2 (by omega) (by omega) hx;have mr:=kH hcall;clear hst hx hcall;go_wp2_with fail
  refine(mr.out).mono ?_;rintro e w3 ⟨k3,t3,a3,z3,A3,n3,c3,rfl,j3,v3,hv3,h3,dR⟩;have fw:=kH hv3;have df:=dR.blk h2 hR2;have P3:=P2.trans dR;replace j3:=aB.weak (Q:=fun g=>w.heap.size+1<=g) (fun g _ hg=>aaE hR2.lt hg) _ _ j3
  clear hv3;have aM:=trivial;obtain⟨⟨r0,r1,r2,r3,r4⟩,g0,g1,g2,g3,g4⟩:=df.five;go_wp2_with fail
  have aV:=kH (bF (v:=v) h3 P3 rfl df hgl j3);clear j3;rw[fw.out]at aV;refine bodyPost_ret (v:=.agg #[.int .i64 k3,.string t3,.int .i64 a3,.int .i64 z3,.slice A3 n3 c3]) (by simp[results,Tryz.results134,go_sem,r0,r1,r2,r3,r4]) rfl ?_;try rw[aM.out]
  exact aV.out
 ·have hst:v2.st=ay E.l v.st:=by
   rw[gD.out];unfold bC;rw[HB0.out,if_pos rfl]
  obtain⟨x3,q3,hx,hrq⟩:∃x3 q3,aJ E.bs E.l f (.expr 3) v2.st=some ([x3],q3)/\(t,q)=(aH E.l q3 v.st.k 28 [110,111,116] [x3],q3):=by
   have:=HR.out;rw[HB0.out,if_pos rfl]at this;obtain⟨x,p,h1,h2⟩:=ek this;simp at h2;exact⟨x,p,by rw[hst];exact h1,by rw[<- h2.1,<- h2.2]⟩
  have hcall:=(eH.out f (aaD _)).expr 3 v2 w2 x3 q3 h2 (by omega) (by omega) hx;have mr:=kH hcall;have aM:=kH hrq;clear hst hx hcall hrq;go_wp2_with fail
  refine(mr.out).mono ?_;rintro e w3 ⟨k3,t3,a3,z3,A3,n3,c3,rfl,j3,v3,hv3,h3,dR⟩;have fw:=kH hv3;have df:=dR.blk h2 hR2;have P3:=P2.trans dR;replace j3:=aB.weak (Q:=fun g=>w.heap.size+1<=g) (fun g _ hg=>aaE hR2.lt hg) _ _ j3
  clear hv3;go_wp2_with fail
  generalize lV:w3.alloc (.cells #[.int .i64 k3,.string t3,.int .i64 a3,.int .i64 z3,.slice A3 n3 c3] 24)=w4
  have hb4:Below w3.heap.size w3 w4:=by rw[<- lV];exact af _ _
  have hs4:w4.heap.size=w3.heap.size+1:=by rw[<- lV];simp
  have Cf:ai w4 w3.heap.size 24 #[.int .i64 k3,.string t3,.int .i64 a3,.int .i64 z3,.slice A3 n3 c3]:=by rw[<- lV];exact ai.new w3 _ _
  have jC:=aB.keeps (bO.of_below hb4) _ _ j3;have h4:=h3.below hb4;have dS:=df.below hb4 df.lt;have P4:=P3.trans (PM.of_below hb4);clear lV;have yX:=kH (jQ jC (by have:=dS.lt;omega));generalize oz:w4.alloc (.cells #[.int .i64 k3,.string t3,.int .i64 a3,.int .i64 z3,.slice A3 n3 c3] 24)=w5 at yX⊢
  have hb5:Below w4.heap.size w4 w5:=by rw[<- oz];exact af _ _
  have h5:=h4.below hb5;have eT:=dS.below hb5 dS.lt;have P5:=P4.trans (PM.of_below hb5);clear oz;obtain⟨v5,hv5⟩:∃vv,vv=v3:=⟨_,rfl⟩
  rw[<- hv5]at h5 P5 fw;have HV5:=fw;rw[<- hs4];clear hv5 Cf hs4;refine(dN E hE v5 _ h5 v.st.k 28 [110,111,116] (w.heap.size+1) (some ⟨w4.heap.size,0,none⟩) 1 1 [x3] yX.out).mono ?_;rintro e w6 ⟨rfl,hb6,nQ⟩;have h6:=h5.below hb6;have fK:=eT.below hb6 eT.lt;obtain⟨⟨r0,r1,r2,r3,r4⟩,g0,g1,g2,g3,g4⟩:=fK.five;go_wp2_with fail
  have aV:=kH (bF (v:=v) h6 (P5.trans (PM.of_below hb6)) rfl fK hgl nQ);clear nQ;refine bodyPost_ret (v:=.agg #[.int .i64 28,.string (aU [110,111,116]),.int .i64 (bN E.l v5.st v.st.k [x3]),.int .i64 (v5.st.last:Int),.slice (some ⟨w4.heap.size,0,none⟩) 1 1]) (by simp[results,Tryz.results134,go_sem,r0,r1,r2,r3,r4]) rfl ?_;exact Eq.mp (congrArg (fun r=>bq E w v r _ _) (show(aH E.l v5.st v.st.k 28 [110,111,116] [x3],v5.st)=_ by rw[aM.out,HV5.out])) aV.out
theorem XU(E:PE)(hE:E.Ok)(f:Nat)(IH:∀f',f'<=f->xN E f')(v:PV)(w:World)(t:aa)(q:PS)(hpw:PW w E v)(hr:aJ E.bs E.l (f+1) (.expr 7) v.st=some ([t],q)):Calls Tryz.prog 134 #[.pointer (some ⟨E.gp,0,none⟩),.int .i64 7] w (bq E w v (t,q)):=by
 rw[aJ,if_neg (by decide),if_pos rfl]at hr;have HR:=kH hr;have eH:=kH IH;clear hr IH;have hgl:=hpw.blk.lt;have hk2:w.cell? ⟨E.gp,2,none⟩=some (.int .i64 (v.st.k:Int)):=hpw.blk.cell 2;go_enter Tryz.func134,Tryz.ntmps134
 go_wp2_with fail
 generalize hW1:w.alloc (.cells #[.int .i64 0,.string ⟨#[]⟩,.int .i64 0,.int .i64 0,.slice none 0 0] 24)=W1
 have hb1:Below w.heap.size w W1:=by rw[<- hW1];exact af _ _
 have eD:ai W1 w.heap.size 24 #[.int .i64 0,.string ⟨#[]⟩,.int .i64 0,.int .i64 0,.slice none 0 0]:=by rw[<- hW1];exact ai.new w _ _
 have hs1:W1.heap.size=w.heap.size+1:=by rw[<- hW1];simp
 have hm1:=PM.of_below (E:=E) (v:=v) hb1;have h1:=hpw.below hb1;have P1:=hm1;have nV:=kH hs1;have xq:=kH hm1;clear hW1 hs1 hm1 hb1;obtain⟨b0,hb0⟩:∃x,bB E.bs E.l v.st [45]=x:=⟨_,rfl⟩
 have HB0:=kH hb0;clear hb0 hk2;refine(fE E hE v [45] _ h1).mono ?_;rintro e w2 ⟨rfl,v2,hv2,h2,hm2⟩;rw[HB0.out];have gD:=kH hv2;have hR2:=hm2.blk h1 eD;have P2:=P1.trans hm2;clear hv2 hm2;cases b0
 ·have hst:v2.st=v.st:=by
   rw[gD.out];unfold bC;rw[HB0.out,if_neg (by simp)]
  have hx:aJ E.bs E.l f .operand v2.st=some ([t],q):=by
   have:=HR.out;rw[HB0.out,if_neg (by simp)]at this;rw[hst];exact this
  have hcall:=(eH.out f (aaD _)).operand v2 w2 t q h2 hx;have mr:=kH hcall;clear hst hx hcall;go_wp2_with fail
  refine(mr.out).mono ?_;rintro e w3 ⟨k3,t3,a3,z3,A3,n3,c3,rfl,j3,v3,hv3,h3,dR⟩;have fw:=kH hv3;have df:=dR.blk h2 hR2;have P3:=P2.trans dR;replace j3:=aB.weak (Q:=fun g=>w.heap.size+1<=g) (fun g _ hg=>aaE hR2.lt hg) _ _ j3
  clear hv3;have aM:=trivial;obtain⟨⟨r0,r1,r2,r3,r4⟩,g0,g1,g2,g3,g4⟩:=df.five;go_wp2_with fail
  have aV:=kH (bF (v:=v) h3 P3 rfl df hgl j3);clear j3;rw[fw.out]at aV;refine bodyPost_ret (v:=.agg #[.int .i64 k3,.string t3,.int .i64 a3,.int .i64 z3,.slice A3 n3 c3]) (by simp[results,Tryz.results134,go_sem,r0,r1,r2,r3,r4]) rfl ?_;try rw[aM.out]
  exact aV.out
 ·have hst:v2.st=ay E.l v.st:=by
   rw[gD.out];unfold bC;rw[HB0.out,if_pos rfl]
  obtain⟨x3,q3,hx,hrq⟩:∃x3 q3,aJ E.bs E.l f (.expr 7) v2.st=some ([x3],q3)/\(t,q)=(aH E.l q3 v.st.k 28 [45] [x3],q3):=by
   have:=HR.out;rw[HB0.out,if_pos rfl]at this;obtain⟨x,p,h1,h2⟩:=ek this;simp at h2;exact⟨x,p,by rw[hst];exact h1,by rw[<- h2.1,<- h2.2]⟩
  have hcall:=(eH.out f (aaD _)).expr 7 v2 w2 x3 q3 h2 (by omega) (by omega) hx;have mr:=kH hcall;have aM:=kH hrq;clear hst hx hcall hrq;go_wp2_with fail
  refine(mr.out).mono ?_;rintro e w3 ⟨k3,t3,a3,z3,A3,n3,c3,rfl,j3,v3,hv3,h3,dR⟩;have fw:=kH hv3;have df:=dR.blk h2 hR2;have P3:=P2.trans dR;replace j3:=aB.weak (Q:=fun g=>w.heap.size+1<=g) (fun g _ hg=>aaE hR2.lt hg) _ _ j3
  clear hv3;go_wp2_with fail
  generalize lV:w3.alloc (.cells #[.int .i64 k3,.string t3,.int .i64 a3,.int .i64 z3,.slice A3 n3 c3] 24)=w4
  have hb4:Below w3.heap.size w3 w4:=by rw[<- lV];exact af _ _
  have hs4:w4.heap.size=w3.heap.size+1:=by rw[<- lV];simp
  have Cf:ai w4 w3.heap.size 24 #[.int .i64 k3,.string t3,.int .i64 a3,.int .i64 z3,.slice A3 n3 c3]:=by rw[<- lV];exact ai.new w3 _ _
  have jC:=aB.keeps (bO.of_below hb4) _ _ j3;have h4:=h3.below hb4;have dS:=df.below hb4 df.lt;have P4:=P3.trans (PM.of_below hb4);clear lV;have yX:=kH (jQ jC (by have:=dS.lt;omega));generalize oz:w4.alloc (.cells #[.int .i64 k3,.string t3,.int .i64 a3,.int .i64 z3,.slice A3 n3 c3] 24)=w5 at yX⊢
  have hb5:Below w4.heap.size w4 w5:=by rw[<- oz];exact af _ _
  have h5:=h4.below hb5;have eT:=dS.below hb5 dS.lt;have P5:=P4.trans (PM.of_below hb5);clear oz;obtain⟨v5,hv5⟩:∃vv,vv=v3:=⟨_,rfl⟩
  rw[<- hv5]at h5 P5 fw;have HV5:=fw;rw[<- hs4];clear hv5 Cf hs4;refine(dN E hE v5 _ h5 v.st.k 28 [45] (w.heap.size+1) (some ⟨w4.heap.size,0,none⟩) 1 1 [x3] yX.out).mono ?_;rintro e w6 ⟨rfl,hb6,nQ⟩;have h6:=h5.below hb6;have fK:=eT.below hb6 eT.lt;obtain⟨⟨r0,r1,r2,r3,r4⟩,g0,g1,g2,g3,g4⟩:=fK.five;go_wp2_with fail
  have aV:=kH (bF (v:=v) h6 (P5.trans (PM.of_below hb6)) rfl fK hgl nQ);clear nQ;refine bodyPost_ret (v:=.agg #[.int .i64 28,.string (aU [45]),.int .i64 (bN E.l v5.st v.st.k [x3]),.int .i64 (v5.st.last:Int),.slice (some ⟨w4.heap.size,0,none⟩) 1 1]) (by simp[results,Tryz.results134,go_sem,r0,r1,r2,r3,r4]) rfl ?_;exact Eq.mp (congrArg (fun r=>bq E w v r _ _) (show(aH E.l v5.st v.st.k 28 [45] [x3],v5.st)=_ by rw[aM.out,HV5.out])) aV.out
theorem yg{w:World}{lo:Nat}{t1 t2:aa}{a b c d e a' b' c' d' e':Value}(h:aB w (fun g=>lo<=g) t1 [a,b,c,d,e])(h':aB w (fun g=>lo<=g) t2 [a',b',c',d',e'])(hlo:lo<=w.heap.size):
 bL (w.alloc (.cells #[a,b,c,d,e,a',b',c',d',e'] 24)) lo (.slice (some ⟨w.heap.size,0,none⟩) 2 2) 2 [t1,t2]:=
 IM (ts:=[t1,t2]) (vals:=[[a,b,c,d,e],[a',b',c',d',e']]) ⟨_,_,rfl,h,_,_,rfl,h',rfl⟩ hlo (by simp)
theorem WO(E:PE)(hE:E.Ok)(f:Nat)(IH:∀f',f'<=f->xN E f')(v:PV)(w:World)(t:aa)(q:PS)(hpw:PW w E v)(hr:aJ E.bs E.l (f+1) .place v.st=some ([t],q)):Calls Tryz.prog 139 #[.pointer (some ⟨E.gp,0,none⟩)] w (bq E w v (t,q)):=by
 rw[aJ]at hr;have HR:=kH hr;have eH:=kH IH;clear hr IH;have hgl:=hpw.blk.lt;have hk2:w.cell? ⟨E.gp,2,none⟩=some (.int .i64 (v.st.k:Int)):=hpw.blk.cell 2;go_enter Tryz.func139,Tryz.ntmps139
 go_wp2_with fail
 generalize hW1:w.alloc (.cells #[.int .i64 0,.string ⟨#[]⟩,.int .i64 0,.int .i64 0,.slice none 0 0] 24)=W1
 have hb1:Below w.heap.size w W1:=by rw[<- hW1];exact af _ _
 have eD:ai W1 w.heap.size 24 #[.int .i64 0,.string ⟨#[]⟩,.int .i64 0,.int .i64 0,.slice none 0 0]:=by rw[<- hW1];exact ai.new w _ _
 have hs1:W1.heap.size=w.heap.size+1:=by rw[<- hW1];simp
 have hm1:=PM.of_below (E:=E) (v:=v) hb1;have h1:=hpw.below hb1;have P1:=hm1;have nV:=kH hs1;have xq:=kH hm1;clear hW1 hs1 hm1 hb1;clear hk2;refine(Ej E hE v _ h1).mono ?_;rintro e w2 ⟨k2,t2,a2,z2,A2,n2,c2,rfl,gX,v2,hv2,h2,hm2⟩;have gD:=kH hv2;have hR2:=hm2.blk h1 eD;have P2:=P1.trans hm2;replace gX:=aB.weak (Q:=fun g=>w.heap.size+1<=g) (fun g _ hg=>aaE eD.lt hg) _ _ gX
 clear hv2;obtain⟨x2,hx2⟩:∃x,(jL E.bs E.l v.st).1=x:=⟨_,rfl⟩
 rw[hx2]at gX;have yB:=kH hx2;clear hx2;go_wp2_with fail
 generalize hW3:w2.alloc (.cells #[.int .i64 k2,.string t2,.int .i64 a2,.int .i64 z2,.slice A2 n2 c2] 24)=w3
 have hb3:Below w2.heap.size w2 w3:=by rw[<- hW3];exact af _ _
 have hs3:w3.heap.size=w2.heap.size+1:=by rw[<- hW3];simp
 have Qs:ai w3 w2.heap.size 24 #[.int .i64 k2,.string t2,.int .i64 a2,.int .i64 z2,.slice A2 n2 c2]:=by rw[<- hW3];exact ai.new w2 _ _
 have j3:=aB.keeps (bO.of_below hb3) _ _ gX;have h3:=h2.below hb3;have df:=hR2.below hb3 hR2.lt;have P3:=P2.trans (PM.of_below hb3);clear hW3;obtain⟨v3,hv3⟩:∃vv,vv=v2:=⟨_,rfl⟩
 rw[<- hv3]at h3 P3 gD;clear hv3;obtain⟨b0,hb0⟩:∃x,bB E.bs E.l v3.st [91]=x:=⟨_,rfl⟩
 have HB0:=kH hb0;clear hb0;refine(fE E hE v3 [91] _ h3).mono ?_;rintro e w4 ⟨rfl,v4,hv4,h4,gW⟩;rw[HB0.out];have iU:=kH hv4;have dS:=gW.blk h3 df;have P4:=P3.trans gW;have Cf:=gW.blk h3 Qs;have jC:=aB.keeps (gW.dL h3) _ _ j3;clear hv4 gW;cases b0
 ·have hst:v4.st=v3.st:=by
   rw[iU.out];unfold bC;rw[HB0.out,if_neg (by simp)]
  have HST:=kH hst;obtain⟨b1,hb1⟩:∃x,bB E.bs E.l v4.st [46]=x:=⟨_,rfl⟩
  have HB1:=kH hb1;clear hst hb1 Qs hs3;go_wp2_with fail
  refine(fE E hE v4 [46] _ h4).mono ?_;rintro e w5 ⟨rfl,v5,hv5,h5,gV⟩;rw[HB1.out];have HV5:=kH hv5;have eT:=gV.blk h4 dS;have P5:=P4.trans gV;have vM:=gV.blk h4 Cf;have gT:=aB.keeps (gV.dL h4) _ _ jC;clear hv5 gV Cf;cases b1
  ·have hst:v5.st=v4.st:=by
    rw[HV5.out];unfold bC;rw[HB1.out,if_neg (by simp)]
   have hrq:(t,q)=(x2,v5.st):=by
    have:=HR.out;rw[<- gD.out,HB0.out,if_neg (by simp),<- HST.out,HB1.out,if_neg (by simp),yB.out]at this;simp at this;rw[hst,<- this.1,<- this.2]
   have aM:=kH hrq;obtain⟨⟨s0,s1,s2,s3,s4⟩,-⟩:=vM.five;obtain⟨⟨r0,r1,r2,r3,r4⟩,g0,g1,g2,g3,g4⟩:=eT.five;clear hst hrq;go_wp2_with fail
   have aV:=kH (bF (v:=v) h5 P5 rfl eT hgl gT);clear gT;refine bodyPost_ret (v:=.agg #[.int .i64 k2,.string t2,.int .i64 a2,.int .i64 z2,.slice A2 n2 c2]) (by simp[results,Tryz.results139,go_sem,r0,r1,r2,r3,r4]) rfl ?_;rw[aM.out];exact aV.out
  ·have hst:v5.st=ay E.l v4.st:=by
    rw[HV5.out];unfold bC;rw[HB1.out,if_pos rfl]
   have hrq:(t,q)=(aH E.l (cK E.l v5.st) v.st.k 22 (cB E.bs E.l v5.st) [x2],cK E.l v5.st):=by
    have:=HR.out;rw[<- gD.out,HB0.out,if_neg (by simp),<- HST.out,HB1.out,if_pos rfl,yB.out]at this;simp at this;rw[hst,<- this.1,<- this.2]
   have aM:=kH hrq;clear hst hrq;go_wp2_with fail
   refine(sS E hE v5 _ h5).mono ?_;rintro e w7 ⟨rfl,v7,hv7,h7,iM⟩;have kY:=kH hv7;have ed:=iM.blk h5 eT;have P7:=P5.trans iM;have M9:=iM.blk h5 vM;have jS:=aB.keeps (iM.dL h5) _ _ gT;obtain⟨⟨s0,s1,s2,s3,s4⟩,-⟩:=M9.five;clear hv7 iM M9 vM;go_wp2_with fail
   have mH:=kH (jQ jS (by have:=ed.lt;omega));generalize mY:w7.alloc (.cells #[.int .i64 k2,.string t2,.int .i64 a2,.int .i64 z2,.slice A2 n2 c2] 24)=w8 at mH⊢
   have dK:Below w7.heap.size w7 w8:=by rw[<- mY];exact af _ _
   have h8:=h7.below dK;have dW:=ed.below dK ed.lt;have P8:=P7.trans (PM.of_below dK);clear mY;obtain⟨v8,dZ⟩:∃vv,vv=v7:=⟨_,rfl⟩
   rw[<- dZ]at h8 P8 kY;have fV:=kY;clear dZ s0 s1 s2 s3 s4;refine(dN E hE v8 _ h8 v.st.k 22 (cB E.bs E.l v5.st) (w.heap.size+1) (some ⟨w7.heap.size,0,none⟩) 1 1 [x2] mH.out).mono ?_;rintro e w9 ⟨rfl,dx,nP⟩;have h9:=h8.below dx;have eQ:=dW.below dx dW.lt;obtain⟨⟨r0,r1,r2,r3,r4⟩,g0,g1,g2,g3,g4⟩:=eQ.five;go_wp2_with fail
   have aV:=kH (bF (v:=v) h9 (P8.trans (PM.of_below dx)) rfl eQ hgl nP);clear nP;refine bodyPost_ret (v:=.agg #[.int .i64 22,.string (aU (cB E.bs E.l v5.st)),.int .i64 (bN E.l v8.st v.st.k [x2]),.int .i64 (v8.st.last:Int),.slice (some ⟨w7.heap.size,0,none⟩) 1 1]) (by simp[results,Tryz.results139,go_sem,r0,r1,r2,r3,r4]) rfl ?_;exact Eq.mp (congrArg (fun r=>bq E w v r _ _) (show(aH E.l v8.st v.st.k 22 (cB E.bs E.l v5.st) [x2],v8.st)=_ by rw[aM.out,fV.out])) aV.out
 ·have hst:v4.st=ay E.l v3.st:=by
   rw[iU.out];unfold bC;rw[HB0.out,if_pos rfl]
  obtain⟨x5,q5,hx,hrq⟩:∃x5 q5,aJ E.bs E.l f (.expr 1) v4.st=some ([x5],q5)/\(t,q)=(aH E.l (aG E.bs E.l q5 [93]) v.st.k 21 [] [x2,x5],aG E.bs E.l q5 [93]):=by
   have:=HR.out;rw[<- gD.out,HB0.out,if_pos rfl,yB.out]at this;obtain⟨x,p,h1,h2⟩:=ek this;simp at h2;exact⟨x,p,by rw[hst];exact h1,by rw[<- h2.1,<- h2.2]⟩
  have hcall:=(eH.out f (aaD _)).expr 1 v4 w4 x5 q5 h4 (by omega) (by omega) hx;have mr:=kH hcall;have aM:=kH hrq;clear hst hx hcall hrq Qs hs3;go_wp2_with fail
  refine(mr.out).mono ?_;rintro e w5 ⟨k5,t5,a5,z5,A5,n5,c5,rfl,gT,v5,hv5,h5,gV⟩;have HV5:=kH hv5;have eT:=gV.blk h4 dS;have P5:=P4.trans gV;replace gT:=aB.weak (Q:=fun g=>w.heap.size+1<=g) (fun g _ hg=>aaE dS.lt hg) _ _ gT
  clear hv5;have vM:=gV.blk h4 Cf;have hU5:=aB.keeps (gV.dL h4) _ _ jC;go_wp2_with fail
  have hX5l:=vM.lt;generalize tF:w5.alloc (.cells #[.int .i64 k5,.string t5,.int .i64 a5,.int .i64 z5,.slice A5 n5 c5] 24)=w6
  have hb6:Below w5.heap.size w5 w6:=by rw[<- tF];exact af _ _
  have hs6:w6.heap.size=w5.heap.size+1:=by rw[<- tF];simp
  have Td:ai w6 w5.heap.size 24 #[.int .i64 k5,.string t5,.int .i64 a5,.int .i64 z5,.slice A5 n5 c5]:=by rw[<- tF];exact ai.new w5 _ _
  have nQ:=aB.keeps (bO.of_below hb6) _ _ gT;have h6:=h5.below hb6;have fK:=eT.below hb6 eT.lt;have P6:=P5.trans (PM.of_below hb6);clear tF;have hY6:=vM.below hb6 vM.lt;have hU6:=aB.keeps (bO.of_below hb6) _ _ hU5;refine(ky E hE v5 [93] _ h6).mono ?_;rintro e w7 ⟨rfl,v7,hv7,h7,iM⟩;have kY:=kH hv7;rw[HV5.out]at kY;have ed:=iM.blk h6 fK;have P7:=P6.trans iM;have M9:=iM.blk h6 Td;have XD:=iM.blk h6 hY6;have jS:=aB.keeps (iM.dL h6) _ _ nQ;have hU7:=aB.keeps (iM.dL h6) _ _ hU6;obtain⟨⟨r0,r1,r2,r3,r4⟩,-⟩:=M9.five;obtain⟨⟨s0,s1,s2,s3,s4⟩,-⟩:=XD.five;have HR7:=kH ed;clear hv7 iM M9 XD Cf vM Td hY6 hs6;go_wp2_with fail
  have mH:=kH (yg hU7 jS (by have:=HR7.out.lt;omega));generalize mY:w7.alloc (.cells #[.int .i64 k2,.string t2,.int .i64 a2,.int .i64 z2,.slice A2 n2 c2,.int .i64 k5,.string t5,.int .i64 a5,.int .i64 z5,.slice A5 n5 c5] 24)=w8 at mH⊢
  have dK:Below w7.heap.size w7 w8:=by rw[<- mY];exact af _ _
  have h8:=h7.below dK;have dW:=HR7.out.below dK HR7.out.lt;have P8:=P7.trans (PM.of_below dK);obtain⟨v8,dZ⟩:∃vv,vv=v7:=⟨_,rfl⟩
  rw[<- dZ]at h8 P8 kY;have fV:=kY;clear dZ mY r0 r1 r2 r3 r4 s0 s1 s2 s3 s4;refine(dN E hE v8 _ h8 v.st.k 21 [] (w.heap.size+1) (some ⟨w7.heap.size,0,none⟩) 2 2 [x2,x5] mH.out).mono ?_;rintro e w9 ⟨rfl,dx,nP⟩;have h9:=h8.below dx;have eQ:=dW.below dx dW.lt;obtain⟨⟨r0,r1,r2,r3,r4⟩,g0,g1,g2,g3,g4⟩:=eQ.five;go_wp2_with fail
  have aV:=kH (bF (v:=v) h9 (P8.trans (PM.of_below dx)) rfl eQ hgl nP);clear nP;refine bodyPost_ret (v:=.agg #[.int .i64 21,.string (aU []),.int .i64 (bN E.l v8.st v.st.k [x2,x5]),.int .i64 (v8.st.last:Int),.slice (some ⟨w7.heap.size,0,none⟩) 2 2]) (by simp[results,Tryz.results139,go_sem,r0,r1,r2,r3,r4]) rfl ?_;exact Eq.mp (congrArg (fun r=>bq E w v r _ _) (show(aH E.l v8.st v.st.k 21 [] [x2,x5],v8.st)=_ by rw[aM.out,fV.out])) aV.out
theorem yf{w:World}{lo:Nat}{t1 t2 t3:aa}{a b c d e a' b' c' d' e' x y z u o:Value}(h:aB w (fun g=>lo<=g) t1 [a,b,c,d,e])(h':aB w (fun g=>lo<=g) t2 [a',b',c',d',e'])(h'':aB w (fun g=>lo<=g) t3 [x,y,z,u,o])(hlo:lo<=w.heap.size):
 bL (w.alloc (.cells #[a,b,c,d,e,a',b',c',d',e',x,y,z,u,o] 24)) lo (.slice (some ⟨w.heap.size,0,none⟩) 3 3) 3 [t1,t2,t3]:=
 IM (ts:=[t1,t2,t3]) (vals:=[[a,b,c,d,e],[a',b',c',d',e'],[x,y,z,u,o]]) ⟨_,_,rfl,h,_,_,rfl,h',_,_,rfl,h'',rfl⟩ hlo (by simp)
theorem NN(E:PE)(hE:E.Ok)(f:Nat)(IH:xN E f)(v:PV)(w:World)(r:aa×PS)(hpw:PW w E v)(h5:bG E.l v.st≠5)(hr:qm E.bs E.l f v.st=some r):Calls Tryz.prog 68 #[.pointer (some ⟨E.gp,0,none⟩)] w (bq E w v r):=by
 obtain⟨x4,q4,x8,q8,hx,hb,hrq⟩:∃x4 q4 x8 q8,nN E.bs E.l f (cK E.l (ay E.l v.st))=some (x4,q4)/\aJ E.bs E.l f .block (ib E.bs E.l q4).2=some ([x8],q8)/\r=(aH E.l q8 v.st.k 5 (cB E.bs E.l (ay E.l v.st)) [x4,(ib E.bs E.l q4).1,x8],q8):=by
  unfold qm at hr;simp only at hr;split at hr
  ·cases hr
  ·rename_i x p h
   split at hr
   ·rename_i b p3 h2
    cases hr
    exact⟨x,p,b,p3,h,h2,rfl⟩
   ·cases hr
 have HX:=kH hx;have HB:=kH hb;have aM:=kH hrq;have eH:=kH IH;have Rj:=kH h5;clear hr hx hb hrq IH h5;have hgl:=hpw.blk.lt;have hk2:w.cell? ⟨E.gp,2,none⟩=some (.int .i64 (v.st.k:Int)):=hpw.blk.cell 2;go_enter Tryz.func68,Tryz.ntmps68
 go_wp2_with fail
 generalize hW1:w.alloc (.cells #[.int .i64 0,.string ⟨#[]⟩,.int .i64 0,.int .i64 0,.slice none 0 0] 24)=W1
 have hb1:Below w.heap.size w W1:=by rw[<- hW1];exact af _ _
 have eD:ai W1 w.heap.size 24 #[.int .i64 0,.string ⟨#[]⟩,.int .i64 0,.int .i64 0,.slice none 0 0]:=by rw[<- hW1];exact ai.new w _ _
 have hs1:W1.heap.size=w.heap.size+1:=by rw[<- hW1];simp
 have hm1:=PM.of_below (E:=E) (v:=v) hb1;have h1:=hpw.below hb1;have P1:=hm1;have nV:=kH hs1;have xq:=kH hm1;clear hW1 hs1 hm1 hb1;clear hk2;refine(qG E hE v _ h1 Rj.out).mono ?_;rintro e w2 ⟨rfl,h2,hm2⟩;have hR2:=hm2.blk h1 eD;have P2:=P1.trans hm2;obtain⟨v2,hv2⟩:∃vv:PV,(⟨ay E.l v.st,v.lv⟩:PV)=vv:=⟨_,rfl⟩
 rw[hv2]at h2 P2;have gD:Hid (v2.st=ay E.l v.st):=kH (by rw[<- hv2]);clear hv2 hm2;go_wp2_with fail
 refine(sS E hE v2 _ h2).mono ?_;rintro e w3 ⟨rfl,v3,hv3,h3,dR⟩;have fw:=kH hv3;have df:=dR.blk h2 hR2;have P3:=P2.trans dR;clear hv3 dR;have hnt:cB E.bs E.l v2.st=cB E.bs E.l (ay E.l v.st):=by rw[gD.out]
 rw[hnt];rw[gD.out]at fw;clear hnt;have hcall:=LQ E hE v3 w3 h3 f (x4,q4) (by rw[fw.out];exact HX.out);have HC4:=kH hcall;clear hcall;go_wp2_with fail
 refine(HC4.out).mono ?_;rintro e w4 ⟨k4,t4,a4,z4,A4,n4,c4,rfl,jC,v4,hv4,h4,gW⟩;have iU:=kH hv4;have dS:=gW.blk h3 df;have P4:=P3.trans gW;replace jC:=aB.weak (Q:=fun g=>w.heap.size+1<=g) (fun g _ hg=>aaE df.lt hg) _ _ jC
 clear hv4;go_wp2_with fail
 generalize oz:w4.alloc (.cells #[.int .i64 k4,.string t4,.int .i64 a4,.int .i64 z4,.slice A4 n4 c4] 24)=w5
 have hb5:Below w4.heap.size w4 w5:=by rw[<- oz];exact af _ _
 have hs5:w5.heap.size=w4.heap.size+1:=by rw[<- oz];simp
 have vM:ai w5 w4.heap.size 24 #[.int .i64 k4,.string t4,.int .i64 a4,.int .i64 z4,.slice A4 n4 c4]:=by rw[<- oz];exact ai.new w4 _ _
 have gT:=aB.keeps (bO.of_below hb5) _ _ jC;have h5:=h4.below hb5;have eT:=dS.below hb5 dS.lt;have P5:=P4.trans (PM.of_below hb5);clear oz;obtain⟨v5,hv5⟩:∃vv,vv=v4:=⟨_,rfl⟩
 rw[<- hv5]at h5 P5 iU;clear hv5 hs5;refine(vX E hE v5 _ h5).mono ?_;rintro e w6 ⟨k6,t6,a6,z6,A6,n6,c6,rfl,nQ,v6,hv6,h6,gu⟩;have kZ:=kH hv6;have fK:=gu.blk h5 eT;have P6:=P5.trans gu;replace nQ:=aB.weak (Q:=fun g=>w.heap.size+1<=g) (fun g _ hg=>aaE eT.lt hg) _ _ nQ
 clear hv6;have Td:=gu.blk h5 vM;have hU6:=aB.keeps (gu.dL h5) _ _ gT;have hq4:v5.st=q4:=iU.out;rw[hq4]at kZ nQ;obtain⟨o6,SN⟩:∃x,(ib E.bs E.l q4).1=x:=⟨_,rfl⟩
 rw[SN]at nQ aM;clear SN hq4;go_wp2_with fail
 generalize uC:w6.alloc (.cells #[.int .i64 k6,.string t6,.int .i64 a6,.int .i64 z6,.slice A6 n6 c6] 24)=w7
 have dE:Below w6.heap.size w6 w7:=by rw[<- uC];exact af _ _
 have hs7:w7.heap.size=w6.heap.size+1:=by rw[<- uC];simp
 have M9:ai w7 w6.heap.size 24 #[.int .i64 k6,.string t6,.int .i64 a6,.int .i64 z6,.slice A6 n6 c6]:=by rw[<- uC];exact ai.new w6 _ _
 have jS:=aB.keeps (bO.of_below dE) _ _ nQ;have h7:=h6.below dE;have ed:=fK.below dE fK.lt;have P7:=P6.trans (PM.of_below dE);clear uC;have XD:=Td.below dE Td.lt;have hU7:=aB.keeps (bO.of_below dE) _ _ hU6;obtain⟨v7,hv7⟩:∃vv,vv=v6:=⟨_,rfl⟩
 rw[<- hv7]at h7 P7 kZ;clear hv7 hs7;have hcall:=eH.out.block v7 w7 x8 q8 h7 (by rw[kZ.out];exact HB.out);have HC8:=kH hcall;clear hcall;refine(HC8.out).mono ?_;rintro e w8 ⟨k8,t8,a8,z8,A8,n8,c8,rfl,pW,v8,dZ,h8,dP⟩;have fV:=kH dZ;have dW:=dP.blk h7 ed;have P8:=P7.trans dP;replace pW:=aB.weak (Q:=fun g=>w.heap.size+1<=g) (fun g _ hg=>aaE ed.lt hg) _ _ pW
 clear dZ;have Ce:=dP.blk h7 XD;have hY8:=dP.blk h7 M9;have hU8:=aB.keeps (dP.dL h7) _ _ hU7;have mY:=aB.keeps (dP.dL h7) _ _ jS;obtain⟨⟨r0,r1,r2,r3,r4⟩,-⟩:=Ce.five;obtain⟨⟨s0,s1,s2,s3,s4⟩,-⟩:=hY8.five;have Bb:=kH dW;have hl4:=Ce.lt;have hl6:=hY8.lt;clear Ce hY8 M9 XD Td vM;go_wp2_with fail
 generalize qz:w8.alloc (.cells #[.int .i64 k8,.string t8,.int .i64 a8,.int .i64 z8,.slice A8 n8 c8] 24)=w9
 have dx:Below w8.heap.size w8 w9:=by rw[<- qz];exact af _ _
 have uy:w9.heap.size=w8.heap.size+1:=by rw[<- qz];simp
 have hX9:ai w9 w8.heap.size 24 #[.int .i64 k8,.string t8,.int .i64 a8,.int .i64 z8,.slice A8 n8 c8]:=by rw[<- qz];exact ai.new w8 _ _
 have nP:=aB.keeps (bO.of_below dx) _ _ pW;have h9:=h8.below dx;have eQ:=dW.below dx dW.lt;have P9:=P8.trans (PM.of_below dx);clear qz;have hU9:=aB.keeps (bO.of_below dx) _ _ hU8;have qz:=aB.keeps (bO.of_below dx) _ _ mY;have ru:=kH (yf hU9 qz nP (by have:=eQ.lt;omega));generalize E9:w9.alloc (.cells #[.int .i64 k4,.string t4,.int .i64 a4,.int .i64 z4,.slice A4 n4 c4,.int .i64 k6,.string t6,.int .i64 a6,.int .i64 z6,.slice A6 n6 c6,.int .i64 k8,.string t8,.int .i64 a8,.int .i64 z8,.slice A8 n8 c8] 24)=bf at ru⊢
 have ji:Below w9.heap.size w9 bf:=by rw[<- E9];exact af _ _
 have h10:=h9.below ji;have dG:=eQ.below ji eQ.lt;have jH:=P9.trans (PM.of_below ji);obtain⟨v10,fF⟩:∃vv,vv=v8:=⟨_,rfl⟩
 rw[<- fF]at h10 jH fV;have iO:=fV;rw[<- uy];clear fF E9 uy r0 r1 r2 r3 r4 s0 s1 s2 s3 s4 hX9;refine(dN E hE v10 _ h10 v.st.k 5 (cB E.bs E.l (ay E.l v.st)) (w.heap.size+1) (some ⟨w9.heap.size,0,none⟩) 3 3 [x4,o6,x8] ru.out).mono ?_;rintro e jm ⟨rfl,jh,nG⟩;have h11:=h10.below jh;have iW:=dG.below jh dG.lt;obtain⟨⟨r0,r1,r2,r3,r4⟩,g0,g1,g2,g3,g4⟩:=iW.five;go_wp2_with fail
 have aV:=kH (bF (v:=v) h11 (jH.trans (PM.of_below jh)) rfl iW hgl nG);clear nG;refine bodyPost_ret (v:=.agg #[.int .i64 5,.string (aU (cB E.bs E.l (ay E.l v.st))),.int .i64 (bN E.l v10.st v.st.k [x4,o6,x8]),.int .i64 (v10.st.last:Int),.slice (some ⟨w9.heap.size,0,none⟩) 3 3]) (by simp[results,Tryz.results68,go_sem,r0,r1,r2,r3,r4]) rfl ?_;exact Eq.mp (congrArg (fun r=>bq E w v r _ _) (show(aH E.l v10.st v.st.k 5 (cB E.bs E.l (ay E.l v.st)) [x4,o6,x8],v10.st)=_ by rw[aM.out,iO.out])) aV.out
theorem vF{E:PE}{w wz:World}{v vz:PV}{g:Nat}{a0 b0 c0 d0 e0:Value}(hz:PW wz E vz)(hm:PM E w v wz vz)(hb:ai wz g 24 #[a0,b0,c0,d0,e0])(hg:w.heap.size<=g)(a b c d e:Value):
 PW (bZ wz g a b c d e) E vz/\PM E w v (bZ wz g a b c d e) vz/\ai (bZ wz g a b c d e) g 24 #[a,b,c,d,e]/\bO (fun x=>x≠g) wz (bZ wz g a b c d e):=by
 have hs:az (fun x=>x=g) wz (bZ wz g a b c d e):=by
  unfold bZ;exact(((((az.refl (fun x=>x=g) wz).setCell (.inl rfl) _).setCell (.inl rfl) _).setCell (.inl rfl) _).setCell (.inl rfl) _).setCell (.inl rfl) _
 have hne:E.gp≠g:=by
  rintro rfl;have h1:=hz.blk;unfold ai at h1 hb;rw[h1]at hb;simp at hb
 refine⟨⟨hz.blk.since hs hne,hz.own.since hs (fun x hx e1=>hz.own.eu hb (by decide) (by rw[hx,e1])),hz.toks.since hs (fun x hx e1=>hz.toks.eu hb (by decide) (by rw[hx,e1])),hz.at_,hz.good,hz.last⟩,⟨hm.since.step hs (fun x hx=>.inr (by omega)),hm.fresh⟩,?_,fun x _ hx hc=>hs.block x (aaG.1 hc).1 hx⟩;have:=((((hb.fU 0 a).fU 1 b).fU 2 c).fU 3 d).fU 4 e;unfold bZ;simpa using this
def gG(w:World)(P:Nat->Prop)(g:Nat)(t:aa)(a b c d e:Value):Prop:=
 ai w g 24 #[a,b,c,d,e]/\aB w P t [a,b,c,d,e]
theorem gG.pm{w w':World}{P:Nat->Prop}{g:Nat}{t:aa}{a b c d e:Value}{E:PE}{v v':PV}(h:gG w P g t a b c d e)(hm:PM E w v w' v')(hw:PW w E v):gG w' P g t a b c d e:=
 ⟨hm.blk hw h.1,aB.keeps (hm.dL hw) _ _ h.2⟩
theorem gG.below{w w':World}{P:Nat->Prop}{g:Nat}{t:aa}{a b c d e:Value}(h:gG w P g t a b c d e)(hb:Below w.heap.size w w'):gG w' P g t a b c d e:=
 ⟨ai.below h.1 hb (ai.lt h.1),aB.keeps (bO.of_below hb) _ _ h.2⟩
theorem gG.weak{w:World}{P Q:Nat->Prop}{g:Nat}{t:aa}{a b c d e:Value}(h:gG w P g t a b c d e)(QA:∀g,g<w.heap.size->P g->Q g):gG w Q g t a b c d e:=
 ⟨h.1,aB.weak QA _ _ h.2⟩
section
variable (E:PE) (hE:E.Ok) (v:PV) (w:World) (hpw:PW w E v) {p:PS}(hst:v.st=p)
include hE hpw hst
theorem qD(x:aP)(hb:bB E.bs E.l p x=false):Calls Tryz.prog 128 #[.pointer (some ⟨E.gp,0,none⟩),.string (aU x)] w fun e w'=>e= .returned (.bool false)/\yS E w v p w':=by
 subst hst;have:=fE E hE v x w hpw;rw[hb]at this;unfold bC at this;rw[hb]at this;exact this
theorem oM(x:aP)(hb:bB E.bs E.l p x=true):Calls Tryz.prog 128 #[.pointer (some ⟨E.gp,0,none⟩),.string (aU x)] w fun e w'=>e= .returned (.bool true)/\yS E w v (ay E.l p) w':=by
 subst hst;have:=fE E hE v x w hpw;rw[hb]at this;unfold bC at this;rw[hb]at this;exact this
theorem jV(x:aP):Calls Tryz.prog 126 #[.pointer (some ⟨E.gp,0,none⟩),.string (aU x)] w fun e w'=>e= .returned (.bool (bB E.bs E.l p x))/\yS E w v (aG E.bs E.l p x) w':=by
 subst hst;exact ky E hE v x w hpw
theorem SB:Calls Tryz.prog 125 #[.pointer (some ⟨E.gp,0,none⟩)] w fun e w'=>e= .returned (.string (aU (cB E.bs E.l p)))/\yS E w v (cK E.l p) w':=by
 subst hst;exact sS E hE v w hpw
theorem AB(x:aP){b:Bool}(hb:bB E.bs E.l p x=b):Calls Tryz.prog 66 #[.pointer (some ⟨E.gp,0,none⟩),.string (aU x)] w fun e w'=>e= .returned (.bool b)/\yS E w v p w':=by
 subst hst;refine(yj E hE v x w hpw).mono ?_;rintro e w' ⟨rfl,hb'⟩;exact⟨by rw[hb],v,rfl,hpw.below hb',PM.of_below hb'⟩
theorem vJ{k:Nat}(hk:bG E.l p=k):Calls Tryz.prog 65 #[.pointer (some ⟨E.gp,0,none⟩)] w fun e w'=>e= .returned (.int .i64 (k:Int))/\yS E w v p w':=by
 subst hst;refine(pz E hE v w hpw).mono ?_;rintro e w' ⟨rfl,hb'⟩;exact⟨by rw[hk],v,rfl,hpw.below hb',PM.of_below hb'⟩
theorem Nn{x:aP}(hx:nR E.bs E.l p=x):Calls Tryz.prog 137 #[.pointer (some ⟨E.gp,0,none⟩)] w fun e w'=>e= .returned (.string (aU x))/\yS E w v p w':=by
 subst hst;refine(VM E hE v w hpw).mono ?_;rintro e w' ⟨rfl,hb'⟩;exact⟨by rw[hx],v,rfl,hpw.below hb',PM.of_below hb'⟩
theorem UR{b:Bool}(hb:CF E.bs E.l p=b):Calls Tryz.prog 136 #[.pointer (some ⟨E.gp,0,none⟩)] w fun e w'=>e= .returned (.bool b)/\yS E w v p w':=by
 subst hst;refine(RD E hE v w hpw).mono ?_;rintro e w' ⟨rfl,hb'⟩;exact⟨by rw[hb],v,rfl,hpw.below hb',PM.of_below hb'⟩
theorem RH(lv:Nat)(hlv:lv<=7){b:Bool}(hb:xR E.bs E.l p lv=b):Calls Tryz.prog 186 #[.pointer (some ⟨E.gp,0,none⟩),.int .i64 (lv:Int)] w fun e w'=>e= .returned (.bool b)/\yS E w v p w':=by
 subst hst;refine(Pg E hE v lv w hpw hlv).mono ?_;rintro e w' ⟨rfl,hb'⟩;exact⟨by rw[hb],v,rfl,hpw.below hb',PM.of_below hb'⟩
theorem vH(h5:bG E.l p≠5):Calls Tryz.prog 70 #[.pointer (some ⟨E.gp,0,none⟩)] w fun e w'=>e= .returned (.string (aU (bE E.bs E.l p.k)))/\yS E w v (ay E.l p) w':=by
 subst hst;refine(qG E hE v w hpw h5).mono ?_;rintro e w' ⟨rfl,h1,h2⟩;exact⟨rfl,_,rfl,h1,h2⟩
theorem MK(c:Int)(x:aP):Calls Tryz.prog 69 #[.pointer (some ⟨E.gp,0,none⟩),.int .i64 c,.string (aU x)] w fun e w'=>(∃u,e= .returned u)/\yS E w v (gZ E.l p c x) w':=by
 subst hst;exact rM E hE v c x w hpw
end
theorem F4{s:aP}{l:List jl}{p:PS}{x:aP}(h:bB s l p x=true):bG l p≠5:=by
 unfold bB at h;simp at h;exact h.1
theorem lit2P{w:World}{P:Nat->Prop}{t1 t2:aa}{a b c d e a' b' c' d' e':Value}(h:aB w P t1 [a,b,c,d,e])(h':aB w P t2 [a',b',c',d',e'])(hP:P w.heap.size)(k:Int)(x:ByteArray)(at_ end_:Int):
 aB (w.alloc (.cells #[a,b,c,d,e,a',b',c',d',e'] 24)) P (.node k x at_ end_ [t1,t2]) [.int .i64 k,.string x,.int .i64 at_,.int .i64 end_,.slice (some ⟨w.heap.size,0,none⟩) 2 2]:=by
 have hk:bO P w (w.alloc (.cells #[a,b,c,d,e,a',b',c',d',e'] 24)):=bO.of_below (af _ _);refine⟨some ⟨w.heap.size,0,none⟩,2,[[a,b,c,d,e],[a',b',c',d',e']],rfl,?_,fun g hg=>?_,_,_,rfl,aB.keeps hk _ _ h,_,_,rfl,aB.keeps hk _ _ h',rfl⟩
 ·exact aL.block (base:=0) (e:=24) (size:=5) (n:=2) (Nat.zero_le _) (ai.new w 24 _) (by simp only[maxLen];omega) (by simp)
 ·have:g=w.heap.size:=by simpa [Value.ownBlock] using hg.symm
  rw[this];exact hP
end Go.Proofs.YtoepemlnlpamlaaGreat
