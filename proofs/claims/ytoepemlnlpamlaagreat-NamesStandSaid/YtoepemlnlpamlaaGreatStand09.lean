/- The law NamesStand holds: for every text and every number the law returns true, and its arguments read as before. No condition. Part 9: ParI ParJ ParK ParL Step. -/
import Derived.Test.YtoepemlnlpamlaaGreatStand08
set_option maxRecDepth 100000
set_option maxHeartbeats 4000000
namespace Go.Proofs.YtoepemlnlpamlaaGreat
open Go.RowKit
theorem Xb(E:PE)(hE:E.Ok)(f:Nat)(IH:∀f',f'<=f->xR E f')(v:PV)(w:World)(t:aa)(q:PS)(hpw:PW w E v)(hr:aO E.bs E.l (f+1) (.expr 3) v.st=some ([t],q)):Calls Tryz.prog 134 #[.pointer (some ⟨E.gp,0,none⟩),.int .i64 3] w (bK E w v (t,q)):=by
 rw[aO,if_pos rfl]at hr;have HR:=kH hr;have fO:=kH IH;clear hr IH;have hgl:=hpw.blk.lt;have hk2:w.cell? ⟨E.gp,2,none⟩=some (.int .i64 (v.st.k:Int)):=hpw.blk.cell 2;go_enter Tryz.func134,Tryz.ntmps134
 go_wp2_with fail
 generalize hW1:w.alloc (.cells #[.int .i64 0,.string ⟨#[]⟩,.int .i64 0,.int .i64 0,.slice none 0 0] 24)=W1
 have hb1:Below w.heap.size w W1:=by rw[<- hW1];exact ae _ _
 have eP:ak W1 w.heap.size 24 #[.int .i64 0,.string ⟨#[]⟩,.int .i64 0,.int .i64 0,.slice none 0 0]:=by rw[<- hW1];exact ak.new w _ _
 have hs1:W1.heap.size=w.heap.size+1:=by rw[<- hW1];simp
 have hm1:=PM.of_below (E:=E) (v:=v) hb1;have h1:=hpw.below hb1;have P1:=hm1;have pJ:=kH hs1;have xB:=kH hm1;clear hW1 hs1 hm1 hb1;obtain⟨b0,hb0⟩:∃x,bM E.bs E.l v.st [110,111,116]=x:=⟨_,rfl⟩
 have HB0:=kH hb0;clear hb0 hk2;refine(gI E hE v [110,111,116] _ h1).mono ?_;rintro e w2 ⟨rfl,v2,hv2,h2,hm2⟩;rw[HB0.out];have iw:=kH hv2;have hR2:=hm2.blk h1 eP;have P2:=P1.trans hm2;clear hv2 hm2;cases b0
 ·have hst:v2.st=v.st:=by
   rw[iw.out];unfold bN;rw[HB0.out,if_neg (by simp)]
  have hx:aO E.bs E.l f (.expr 4) v2.st=some ([t],q):=by
   have:=HR.out;rw[HB0.out,if_neg (by simp)]at this;rw[hst];exact this
  have hcall:=(fO.out f (aab _)).expr 4 v2 w2 t q h2 (by omega) (by omega) hx;have jD:=kH hcall;clear hst hx hcall;go_wp2_with fail
  refine(jD.out).mono ?_;rintro e w3 ⟨k3,t3,a3,z3,A3,n3,c3,rfl,kK,v3,hv3,h3,eH⟩;have fU:=kH hv3;have dD:=eH.blk h2 hR2;have P3:=P2.trans eH;replace kK:=aF.weak (Q:=fun g=>w.heap.size+1<=g) (fun g _ hg=>aac hR2.lt hg) _ _ kK
  clear hv3;have aV:=trivial;obtain⟨⟨r0,r1,r2,r3,r4⟩,g0,g1,g2,g3,g4⟩:=dD.five;go_wp2_with fail
  have bC:=kH (bO (v:=v) h3 P3 rfl dD hgl kK);clear kK;rw[fU.out]at bC;refine bodyPost_ret (v:=.agg #[.int .i64 k3,.string t3,.int .i64 a3,.int .i64 z3,.slice A3 n3 c3]) (by simp[results,Tryz.results134,go_sem,r0,r1,r2,r3,r4]) rfl ?_;try rw[aV.out]
  exact bC.out
 ·have hst:v2.st=aC E.l v.st:=by
   rw[iw.out];unfold bN;rw[HB0.out,if_pos rfl]
  obtain⟨x3,q3,hx,hrq⟩:∃x3 q3,aO E.bs E.l f (.expr 3) v2.st=some ([x3],q3)/\(t,q)=(aI E.l q3 v.st.k 28 [110,111,116] [x3],q3):=by
   have:=HR.out;rw[HB0.out,if_pos rfl]at this;obtain⟨x,p,h1,h2⟩:=fE this;simp at h2;exact⟨x,p,by rw[hst];exact h1,by rw[<- h2.1,<- h2.2]⟩
  have hcall:=(fO.out f (aab _)).expr 3 v2 w2 x3 q3 h2 (by omega) (by omega) hx;have jD:=kH hcall;have aV:=kH hrq;clear hst hx hcall hrq;go_wp2_with fail
  refine(jD.out).mono ?_;rintro e w3 ⟨k3,t3,a3,z3,A3,n3,c3,rfl,kK,v3,hv3,h3,eH⟩;have fU:=kH hv3;have dD:=eH.blk h2 hR2;have P3:=P2.trans eH;replace kK:=aF.weak (Q:=fun g=>w.heap.size+1<=g) (fun g _ hg=>aac hR2.lt hg) _ _ kK
  clear hv3;go_wp2_with fail
  generalize l9:w3.alloc (.cells #[.int .i64 k3,.string t3,.int .i64 a3,.int .i64 z3,.slice A3 n3 c3] 24)=w4
  have hb4:Below w3.heap.size w3 w4:=by rw[<- l9];exact ae _ _
  have hs4:w4.heap.size=w3.heap.size+1:=by rw[<- l9];simp
  have MJ:ak w4 w3.heap.size 24 #[.int .i64 k3,.string t3,.int .i64 a3,.int .i64 z3,.slice A3 n3 c3]:=by rw[<- l9];exact ak.new w3 _ _
  have lD:=aF.keeps (dB.of_below hb4) _ _ kK;have h4:=h3.below hb4;have fB:=dD.below hb4 dD.lt;have P4:=P3.trans (PM.of_below hb4);clear l9;have zo:=kH (kE lD (by have:=fB.lt;omega));generalize pI:w4.alloc (.cells #[.int .i64 k3,.string t3,.int .i64 a3,.int .i64 z3,.slice A3 n3 c3] 24)=w5 at zo⊢
  have hb5:Below w4.heap.size w4 w5:=by rw[<- pI];exact ae _ _
  have h5:=h4.below hb5;have fK:=fB.below hb5 fB.lt;have P5:=P4.trans (PM.of_below hb5);clear pI;obtain⟨v5,hv5⟩:∃vv,vv=v3:=⟨_,rfl⟩
  rw[<- hv5]at h5 P5 fU;have HV5:=fU;rw[<- hs4];clear hv5 MJ hs4;refine(dY E hE v5 _ h5 v.st.k 28 [110,111,116] (w.heap.size+1) (some ⟨w4.heap.size,0,none⟩) 1 1 [x3] zo.out).mono ?_;rintro e w6 ⟨rfl,hb6,qR⟩;have h6:=h5.below hb6;have fI:=fK.below hb6 fK.lt;obtain⟨⟨r0,r1,r2,r3,r4⟩,g0,g1,g2,g3,g4⟩:=fI.five;go_wp2_with fail
  have bC:=kH (bO (v:=v) h6 (P5.trans (PM.of_below hb6)) rfl fI hgl qR);clear qR;refine bodyPost_ret (v:=.agg #[.int .i64 28,.string (bI [110,111,116]),.int .i64 (bW E.l v5.st v.st.k [x3]),.int .i64 (v5.st.last:Int),.slice (some ⟨w4.heap.size,0,none⟩) 1 1]) (by simp[results,Tryz.results134,go_sem,r0,r1,r2,r3,r4]) rfl ?_;exact Eq.mp (congrArg (fun r=>bK E w v r _ _) (show(aI E.l v5.st v.st.k 28 [110,111,116] [x3],v5.st)=_ by rw[aV.out,HV5.out])) bC.out
theorem Xa(E:PE)(hE:E.Ok)(f:Nat)(IH:∀f',f'<=f->xR E f')(v:PV)(w:World)(t:aa)(q:PS)(hpw:PW w E v)(hr:aO E.bs E.l (f+1) (.expr 7) v.st=some ([t],q)):Calls Tryz.prog 134 #[.pointer (some ⟨E.gp,0,none⟩),.int .i64 7] w (bK E w v (t,q)):=by
 rw[aO,if_neg (by decide),if_pos rfl]at hr;have HR:=kH hr;have fO:=kH IH;clear hr IH;have hgl:=hpw.blk.lt;have hk2:w.cell? ⟨E.gp,2,none⟩=some (.int .i64 (v.st.k:Int)):=hpw.blk.cell 2;go_enter Tryz.func134,Tryz.ntmps134
 go_wp2_with fail
 generalize hW1:w.alloc (.cells #[.int .i64 0,.string ⟨#[]⟩,.int .i64 0,.int .i64 0,.slice none 0 0] 24)=W1
 have hb1:Below w.heap.size w W1:=by rw[<- hW1];exact ae _ _
 have eP:ak W1 w.heap.size 24 #[.int .i64 0,.string ⟨#[]⟩,.int .i64 0,.int .i64 0,.slice none 0 0]:=by rw[<- hW1];exact ak.new w _ _
 have hs1:W1.heap.size=w.heap.size+1:=by rw[<- hW1];simp
 have hm1:=PM.of_below (E:=E) (v:=v) hb1;have h1:=hpw.below hb1;have P1:=hm1;have pJ:=kH hs1;have xB:=kH hm1;clear hW1 hs1 hm1 hb1;obtain⟨b0,hb0⟩:∃x,bM E.bs E.l v.st [45]=x:=⟨_,rfl⟩
 have HB0:=kH hb0;clear hb0 hk2;refine(gI E hE v [45] _ h1).mono ?_;rintro e w2 ⟨rfl,v2,hv2,h2,hm2⟩;rw[HB0.out];have iw:=kH hv2;have hR2:=hm2.blk h1 eP;have P2:=P1.trans hm2;clear hv2 hm2;cases b0
 ·have hst:v2.st=v.st:=by
   rw[iw.out];unfold bN;rw[HB0.out,if_neg (by simp)]
  have hx:aO E.bs E.l f .operand v2.st=some ([t],q):=by
   have:=HR.out;rw[HB0.out,if_neg (by simp)]at this;rw[hst];exact this
  have hcall:=(fO.out f (aab _)).operand v2 w2 t q h2 hx;have jD:=kH hcall;clear hst hx hcall;go_wp2_with fail
  refine(jD.out).mono ?_;rintro e w3 ⟨k3,t3,a3,z3,A3,n3,c3,rfl,kK,v3,hv3,h3,eH⟩;have fU:=kH hv3;have dD:=eH.blk h2 hR2;have P3:=P2.trans eH;replace kK:=aF.weak (Q:=fun g=>w.heap.size+1<=g) (fun g _ hg=>aac hR2.lt hg) _ _ kK
  clear hv3;have aV:=trivial;obtain⟨⟨r0,r1,r2,r3,r4⟩,g0,g1,g2,g3,g4⟩:=dD.five;go_wp2_with fail
  have bC:=kH (bO (v:=v) h3 P3 rfl dD hgl kK);clear kK;rw[fU.out]at bC;refine bodyPost_ret (v:=.agg #[.int .i64 k3,.string t3,.int .i64 a3,.int .i64 z3,.slice A3 n3 c3]) (by simp[results,Tryz.results134,go_sem,r0,r1,r2,r3,r4]) rfl ?_;try rw[aV.out]
  exact bC.out
 ·have hst:v2.st=aC E.l v.st:=by
   rw[iw.out];unfold bN;rw[HB0.out,if_pos rfl]
  obtain⟨x3,q3,hx,hrq⟩:∃x3 q3,aO E.bs E.l f (.expr 7) v2.st=some ([x3],q3)/\(t,q)=(aI E.l q3 v.st.k 28 [45] [x3],q3):=by
   have:=HR.out;rw[HB0.out,if_pos rfl]at this;obtain⟨x,p,h1,h2⟩:=fE this;simp at h2;exact⟨x,p,by rw[hst];exact h1,by rw[<- h2.1,<- h2.2]⟩
  have hcall:=(fO.out f (aab _)).expr 7 v2 w2 x3 q3 h2 (by omega) (by omega) hx;have jD:=kH hcall;have aV:=kH hrq;clear hst hx hcall hrq;go_wp2_with fail
  refine(jD.out).mono ?_;rintro e w3 ⟨k3,t3,a3,z3,A3,n3,c3,rfl,kK,v3,hv3,h3,eH⟩;have fU:=kH hv3;have dD:=eH.blk h2 hR2;have P3:=P2.trans eH;replace kK:=aF.weak (Q:=fun g=>w.heap.size+1<=g) (fun g _ hg=>aac hR2.lt hg) _ _ kK
  clear hv3;go_wp2_with fail
  generalize l9:w3.alloc (.cells #[.int .i64 k3,.string t3,.int .i64 a3,.int .i64 z3,.slice A3 n3 c3] 24)=w4
  have hb4:Below w3.heap.size w3 w4:=by rw[<- l9];exact ae _ _
  have hs4:w4.heap.size=w3.heap.size+1:=by rw[<- l9];simp
  have MJ:ak w4 w3.heap.size 24 #[.int .i64 k3,.string t3,.int .i64 a3,.int .i64 z3,.slice A3 n3 c3]:=by rw[<- l9];exact ak.new w3 _ _
  have lD:=aF.keeps (dB.of_below hb4) _ _ kK;have h4:=h3.below hb4;have fB:=dD.below hb4 dD.lt;have P4:=P3.trans (PM.of_below hb4);clear l9;have zo:=kH (kE lD (by have:=fB.lt;omega));generalize pI:w4.alloc (.cells #[.int .i64 k3,.string t3,.int .i64 a3,.int .i64 z3,.slice A3 n3 c3] 24)=w5 at zo⊢
  have hb5:Below w4.heap.size w4 w5:=by rw[<- pI];exact ae _ _
  have h5:=h4.below hb5;have fK:=fB.below hb5 fB.lt;have P5:=P4.trans (PM.of_below hb5);clear pI;obtain⟨v5,hv5⟩:∃vv,vv=v3:=⟨_,rfl⟩
  rw[<- hv5]at h5 P5 fU;have HV5:=fU;rw[<- hs4];clear hv5 MJ hs4;refine(dY E hE v5 _ h5 v.st.k 28 [45] (w.heap.size+1) (some ⟨w4.heap.size,0,none⟩) 1 1 [x3] zo.out).mono ?_;rintro e w6 ⟨rfl,hb6,qR⟩;have h6:=h5.below hb6;have fI:=fK.below hb6 fK.lt;obtain⟨⟨r0,r1,r2,r3,r4⟩,g0,g1,g2,g3,g4⟩:=fI.five;go_wp2_with fail
  have bC:=kH (bO (v:=v) h6 (P5.trans (PM.of_below hb6)) rfl fI hgl qR);clear qR;refine bodyPost_ret (v:=.agg #[.int .i64 28,.string (bI [45]),.int .i64 (bW E.l v5.st v.st.k [x3]),.int .i64 (v5.st.last:Int),.slice (some ⟨w4.heap.size,0,none⟩) 1 1]) (by simp[results,Tryz.results134,go_sem,r0,r1,r2,r3,r4]) rfl ?_;exact Eq.mp (congrArg (fun r=>bK E w v r _ _) (show(aI E.l v5.st v.st.k 28 [45] [x3],v5.st)=_ by rw[aV.out,HV5.out])) bC.out
theorem yo{w:World}{lo:Nat}{t1 t2:aa}{a b c d e a' b' c' d' e':Value}(h:aF w (fun g=>lo<=g) t1 [a,b,c,d,e])(h':aF w (fun g=>lo<=g) t2 [a',b',c',d',e'])(hlo:lo<=w.heap.size):
 bT (w.alloc (.cells #[a,b,c,d,e,a',b',c',d',e'] 24)) lo (.slice (some ⟨w.heap.size,0,none⟩) 2 2) 2 [t1,t2]:=
 IU (ts:=[t1,t2]) (vals:=[[a,b,c,d,e],[a',b',c',d',e']]) ⟨_,_,rfl,h,_,_,rfl,h',rfl⟩ hlo (by simp)
theorem VX(E:PE)(hE:E.Ok)(f:Nat)(IH:∀f',f'<=f->xR E f')(v:PV)(w:World)(t:aa)(q:PS)(hpw:PW w E v)(hr:aO E.bs E.l (f+1) .place v.st=some ([t],q)):Calls Tryz.prog 139 #[.pointer (some ⟨E.gp,0,none⟩)] w (bK E w v (t,q)):=by
 rw[aO]at hr;have HR:=kH hr;have fO:=kH IH;clear hr IH;have hgl:=hpw.blk.lt;have hk2:w.cell? ⟨E.gp,2,none⟩=some (.int .i64 (v.st.k:Int)):=hpw.blk.cell 2;go_enter Tryz.func139,Tryz.ntmps139
 go_wp2_with fail
 generalize hW1:w.alloc (.cells #[.int .i64 0,.string ⟨#[]⟩,.int .i64 0,.int .i64 0,.slice none 0 0] 24)=W1
 have hb1:Below w.heap.size w W1:=by rw[<- hW1];exact ae _ _
 have eP:ak W1 w.heap.size 24 #[.int .i64 0,.string ⟨#[]⟩,.int .i64 0,.int .i64 0,.slice none 0 0]:=by rw[<- hW1];exact ak.new w _ _
 have hs1:W1.heap.size=w.heap.size+1:=by rw[<- hW1];simp
 have hm1:=PM.of_below (E:=E) (v:=v) hb1;have h1:=hpw.below hb1;have P1:=hm1;have pJ:=kH hs1;have xB:=kH hm1;clear hW1 hs1 hm1 hb1;clear hk2;refine(Ew E hE v _ h1).mono ?_;rintro e w2 ⟨k2,t2,a2,z2,A2,n2,c2,rfl,mP,v2,hv2,h2,hm2⟩;have iw:=kH hv2;have hR2:=hm2.blk h1 eP;have P2:=P1.trans hm2;replace mP:=aF.weak (Q:=fun g=>w.heap.size+1<=g) (fun g _ hg=>aac eP.lt hg) _ _ mP
 clear hv2;obtain⟨x2,hx2⟩:∃x,(kW E.bs E.l v.st).1=x:=⟨_,rfl⟩
 rw[hx2]at mP;have yI:=kH hx2;clear hx2;go_wp2_with fail
 generalize hW3:w2.alloc (.cells #[.int .i64 k2,.string t2,.int .i64 a2,.int .i64 z2,.slice A2 n2 c2] 24)=w3
 have hb3:Below w2.heap.size w2 w3:=by rw[<- hW3];exact ae _ _
 have hs3:w3.heap.size=w2.heap.size+1:=by rw[<- hW3];simp
 have PK:ak w3 w2.heap.size 24 #[.int .i64 k2,.string t2,.int .i64 a2,.int .i64 z2,.slice A2 n2 c2]:=by rw[<- hW3];exact ak.new w2 _ _
 have kK:=aF.keeps (dB.of_below hb3) _ _ mP;have h3:=h2.below hb3;have dD:=hR2.below hb3 hR2.lt;have P3:=P2.trans (PM.of_below hb3);clear hW3;obtain⟨v3,hv3⟩:∃vv,vv=v2:=⟨_,rfl⟩
 rw[<- hv3]at h3 P3 iw;clear hv3;obtain⟨b0,hb0⟩:∃x,bM E.bs E.l v3.st [91]=x:=⟨_,rfl⟩
 have HB0:=kH hb0;clear hb0;refine(gI E hE v3 [91] _ h3).mono ?_;rintro e w4 ⟨rfl,v4,hv4,h4,iI⟩;rw[HB0.out];have iY:=kH hv4;have fB:=iI.blk h3 dD;have P4:=P3.trans iI;have MJ:=iI.blk h3 PK;have lD:=aF.keeps (iI.dZ h3) _ _ kK;clear hv4 iI;cases b0
 ·have hst:v4.st=v3.st:=by
   rw[iY.out];unfold bN;rw[HB0.out,if_neg (by simp)]
  have HST:=kH hst;obtain⟨b1,hb1⟩:∃x,bM E.bs E.l v4.st [46]=x:=⟨_,rfl⟩
  have HB1:=kH hb1;clear hst hb1 PK hs3;go_wp2_with fail
  refine(gI E hE v4 [46] _ h4).mono ?_;rintro e w5 ⟨rfl,v5,hv5,h5,iH⟩;rw[HB1.out];have HV5:=kH hv5;have fK:=iH.blk h4 fB;have P5:=P4.trans iH;have Ap:=iH.blk h4 MJ;have jH:=aF.keeps (iH.dZ h4) _ _ lD;clear hv5 iH MJ;cases b1
  ·have hst:v5.st=v4.st:=by
    rw[HV5.out];unfold bN;rw[HB1.out,if_neg (by simp)]
   have hrq:(t,q)=(x2,v5.st):=by
    have:=HR.out;rw[<- iw.out,HB0.out,if_neg (by simp),<- HST.out,HB1.out,if_neg (by simp),yI.out]at this;simp at this;rw[hst,<- this.1,<- this.2]
   have aV:=kH hrq;obtain⟨⟨s0,s1,s2,s3,s4⟩,-⟩:=Ap.five;obtain⟨⟨r0,r1,r2,r3,r4⟩,g0,g1,g2,g3,g4⟩:=fK.five;clear hst hrq;go_wp2_with fail
   have bC:=kH (bO (v:=v) h5 P5 rfl fK hgl jH);clear jH;refine bodyPost_ret (v:=.agg #[.int .i64 k2,.string t2,.int .i64 a2,.int .i64 z2,.slice A2 n2 c2]) (by simp[results,Tryz.results139,go_sem,r0,r1,r2,r3,r4]) rfl ?_;rw[aV.out];exact bC.out
  ·have hst:v5.st=aC E.l v4.st:=by
    rw[HV5.out];unfold bN;rw[HB1.out,if_pos rfl]
   have hrq:(t,q)=(aI E.l (dG E.l v5.st) v.st.k 22 (dF E.bs E.l v5.st) [x2],dG E.l v5.st):=by
    have:=HR.out;rw[<- iw.out,HB0.out,if_neg (by simp),<- HST.out,HB1.out,if_pos rfl,yI.out]at this;simp at this;rw[hst,<- this.1,<- this.2]
   have aV:=kH hrq;clear hst hrq;go_wp2_with fail
   refine(tJ E hE v5 _ h5).mono ?_;rintro e w7 ⟨rfl,v7,hv7,h7,jd⟩;have lT:=kH hv7;have fH:=jd.blk h5 fK;have P7:=P5.trans jd;have MI:=jd.blk h5 Ap;have lQ:=aF.keeps (jd.dZ h5) _ _ jH;obtain⟨⟨s0,s1,s2,s3,s4⟩,-⟩:=MI.five;clear hv7 jd MI Ap;go_wp2_with fail
   have nC:=kH (kE lQ (by have:=fH.lt;omega));generalize qd:w7.alloc (.cells #[.int .i64 k2,.string t2,.int .i64 a2,.int .i64 z2,.slice A2 n2 c2] 24)=w8 at nC⊢
   have fJ:Below w7.heap.size w7 w8:=by rw[<- qd];exact ae _ _
   have h8:=h7.below fJ;have eB:=fH.below fJ fH.lt;have P8:=P7.trans (PM.of_below fJ);clear qd;obtain⟨v8,eX⟩:∃vv,vv=v7:=⟨_,rfl⟩
   rw[<- eX]at h8 P8 lT;have ic:=lT;clear eX s0 s1 s2 s3 s4;refine(dY E hE v8 _ h8 v.st.k 22 (dF E.bs E.l v5.st) (w.heap.size+1) (some ⟨w7.heap.size,0,none⟩) 1 1 [x2] nC.out).mono ?_;rintro e w9 ⟨rfl,ek,om⟩;have h9:=h8.below ek;have fA:=eB.below ek eB.lt;obtain⟨⟨r0,r1,r2,r3,r4⟩,g0,g1,g2,g3,g4⟩:=fA.five;go_wp2_with fail
   have bC:=kH (bO (v:=v) h9 (P8.trans (PM.of_below ek)) rfl fA hgl om);clear om;refine bodyPost_ret (v:=.agg #[.int .i64 22,.string (bI (dF E.bs E.l v5.st)),.int .i64 (bW E.l v8.st v.st.k [x2]),.int .i64 (v8.st.last:Int),.slice (some ⟨w7.heap.size,0,none⟩) 1 1]) (by simp[results,Tryz.results139,go_sem,r0,r1,r2,r3,r4]) rfl ?_;exact Eq.mp (congrArg (fun r=>bK E w v r _ _) (show(aI E.l v8.st v.st.k 22 (dF E.bs E.l v5.st) [x2],v8.st)=_ by rw[aV.out,ic.out])) bC.out
 ·have hst:v4.st=aC E.l v3.st:=by
   rw[iY.out];unfold bN;rw[HB0.out,if_pos rfl]
  obtain⟨x5,q5,hx,hrq⟩:∃x5 q5,aO E.bs E.l f (.expr 1) v4.st=some ([x5],q5)/\(t,q)=(aI E.l (aH E.bs E.l q5 [93]) v.st.k 21 [] [x2,x5],aH E.bs E.l q5 [93]):=by
   have:=HR.out;rw[<- iw.out,HB0.out,if_pos rfl,yI.out]at this;obtain⟨x,p,h1,h2⟩:=fE this;simp at h2;exact⟨x,p,by rw[hst];exact h1,by rw[<- h2.1,<- h2.2]⟩
  have hcall:=(fO.out f (aab _)).expr 1 v4 w4 x5 q5 h4 (by omega) (by omega) hx;have jD:=kH hcall;have aV:=kH hrq;clear hst hx hcall hrq PK hs3;go_wp2_with fail
  refine(jD.out).mono ?_;rintro e w5 ⟨k5,t5,a5,z5,A5,n5,c5,rfl,jH,v5,hv5,h5,iH⟩;have HV5:=kH hv5;have fK:=iH.blk h4 fB;have P5:=P4.trans iH;replace jH:=aF.weak (Q:=fun g=>w.heap.size+1<=g) (fun g _ hg=>aac fB.lt hg) _ _ jH
  clear hv5;have Ap:=iH.blk h4 MJ;have hU5:=aF.keeps (iH.dZ h4) _ _ lD;go_wp2_with fail
  have hX5l:=Ap.lt;generalize tO:w5.alloc (.cells #[.int .i64 k5,.string t5,.int .i64 a5,.int .i64 z5,.slice A5 n5 c5] 24)=w6
  have hb6:Below w5.heap.size w5 w6:=by rw[<- tO];exact ae _ _
  have hs6:w6.heap.size=w5.heap.size+1:=by rw[<- tO];simp
  have R8:ak w6 w5.heap.size 24 #[.int .i64 k5,.string t5,.int .i64 a5,.int .i64 z5,.slice A5 n5 c5]:=by rw[<- tO];exact ak.new w5 _ _
  have qR:=aF.keeps (dB.of_below hb6) _ _ jH;have h6:=h5.below hb6;have fI:=fK.below hb6 fK.lt;have P6:=P5.trans (PM.of_below hb6);clear tO;have hY6:=Ap.below hb6 Ap.lt;have hU6:=aF.keeps (dB.of_below hb6) _ _ hU5;refine(kR E hE v5 [93] _ h6).mono ?_;rintro e w7 ⟨rfl,v7,hv7,h7,jd⟩;have lT:=kH hv7;rw[HV5.out]at lT;have fH:=jd.blk h6 fI;have P7:=P6.trans jd;have MI:=jd.blk h6 R8;have WG:=jd.blk h6 hY6;have lQ:=aF.keeps (jd.dZ h6) _ _ qR;have hU7:=aF.keeps (jd.dZ h6) _ _ hU6;obtain⟨⟨r0,r1,r2,r3,r4⟩,-⟩:=MI.five;obtain⟨⟨s0,s1,s2,s3,s4⟩,-⟩:=WG.five;have XC:=kH fH;clear hv7 jd MI WG MJ Ap R8 hY6 hs6;go_wp2_with fail
  have nC:=kH (yo hU7 lQ (by have:=XC.out.lt;omega));generalize qd:w7.alloc (.cells #[.int .i64 k2,.string t2,.int .i64 a2,.int .i64 z2,.slice A2 n2 c2,.int .i64 k5,.string t5,.int .i64 a5,.int .i64 z5,.slice A5 n5 c5] 24)=w8 at nC⊢
  have fJ:Below w7.heap.size w7 w8:=by rw[<- qd];exact ae _ _
  have h8:=h7.below fJ;have eB:=XC.out.below fJ XC.out.lt;have P8:=P7.trans (PM.of_below fJ);obtain⟨v8,eX⟩:∃vv,vv=v7:=⟨_,rfl⟩
  rw[<- eX]at h8 P8 lT;have ic:=lT;clear eX qd r0 r1 r2 r3 r4 s0 s1 s2 s3 s4;refine(dY E hE v8 _ h8 v.st.k 21 [] (w.heap.size+1) (some ⟨w7.heap.size,0,none⟩) 2 2 [x2,x5] nC.out).mono ?_;rintro e w9 ⟨rfl,ek,om⟩;have h9:=h8.below ek;have fA:=eB.below ek eB.lt;obtain⟨⟨r0,r1,r2,r3,r4⟩,g0,g1,g2,g3,g4⟩:=fA.five;go_wp2_with fail
  have bC:=kH (bO (v:=v) h9 (P8.trans (PM.of_below ek)) rfl fA hgl om);clear om;refine bodyPost_ret (v:=.agg #[.int .i64 21,.string (bI []),.int .i64 (bW E.l v8.st v.st.k [x2,x5]),.int .i64 (v8.st.last:Int),.slice (some ⟨w7.heap.size,0,none⟩) 2 2]) (by simp[results,Tryz.results139,go_sem,r0,r1,r2,r3,r4]) rfl ?_;exact Eq.mp (congrArg (fun r=>bK E w v r _ _) (show(aI E.l v8.st v.st.k 21 [] [x2,x5],v8.st)=_ by rw[aV.out,ic.out])) bC.out
theorem ym{w:World}{lo:Nat}{t1 t2 t3:aa}{a b c d e a' b' c' d' e' x y z u o:Value}(h:aF w (fun g=>lo<=g) t1 [a,b,c,d,e])(h':aF w (fun g=>lo<=g) t2 [a',b',c',d',e'])(h'':aF w (fun g=>lo<=g) t3 [x,y,z,u,o])(hlo:lo<=w.heap.size):
 bT (w.alloc (.cells #[a,b,c,d,e,a',b',c',d',e',x,y,z,u,o] 24)) lo (.slice (some ⟨w.heap.size,0,none⟩) 3 3) 3 [t1,t2,t3]:=
 IU (ts:=[t1,t2,t3]) (vals:=[[a,b,c,d,e],[a',b',c',d',e'],[x,y,z,u,o]]) ⟨_,_,rfl,h,_,_,rfl,h',_,_,rfl,h'',rfl⟩ hlo (by simp)
theorem Nt(E:PE)(hE:E.Ok)(f:Nat)(IH:xR E f)(v:PV)(w:World)(r:aa×PS)(hpw:PW w E v)(h5:bP E.l v.st≠5)(hr:rX E.bs E.l f v.st=some r):Calls Tryz.prog 68 #[.pointer (some ⟨E.gp,0,none⟩)] w (bK E w v r):=by
 obtain⟨x4,q4,x8,q8,hx,hb,hrq⟩:∃x4 q4 x8 q8,qz E.bs E.l f (dG E.l (aC E.l v.st))=some (x4,q4)/\aO E.bs E.l f .block (jb E.bs E.l q4).2=some ([x8],q8)/\r=(aI E.l q8 v.st.k 5 (dF E.bs E.l (aC E.l v.st)) [x4,(jb E.bs E.l q4).1,x8],q8):=by
  unfold rX at hr;simp only at hr;split at hr
  ·cases hr
  ·rename_i x p h
   split at hr
   ·rename_i b p3 h2
    cases hr
    exact⟨x,p,b,p3,h,h2,rfl⟩
   ·cases hr
 have HX:=kH hx;have HB:=kH hb;have aV:=kH hrq;have fO:=kH IH;have QO:=kH h5;clear hr hx hb hrq IH h5;have hgl:=hpw.blk.lt;have hk2:w.cell? ⟨E.gp,2,none⟩=some (.int .i64 (v.st.k:Int)):=hpw.blk.cell 2;go_enter Tryz.func68,Tryz.ntmps68
 go_wp2_with fail
 generalize hW1:w.alloc (.cells #[.int .i64 0,.string ⟨#[]⟩,.int .i64 0,.int .i64 0,.slice none 0 0] 24)=W1
 have hb1:Below w.heap.size w W1:=by rw[<- hW1];exact ae _ _
 have eP:ak W1 w.heap.size 24 #[.int .i64 0,.string ⟨#[]⟩,.int .i64 0,.int .i64 0,.slice none 0 0]:=by rw[<- hW1];exact ak.new w _ _
 have hs1:W1.heap.size=w.heap.size+1:=by rw[<- hW1];simp
 have hm1:=PM.of_below (E:=E) (v:=v) hb1;have h1:=hpw.below hb1;have P1:=hm1;have pJ:=kH hs1;have xB:=kH hm1;clear hW1 hs1 hm1 hb1;clear hk2;refine(qN E hE v _ h1 QO.out).mono ?_;rintro e w2 ⟨rfl,h2,hm2⟩;have hR2:=hm2.blk h1 eP;have P2:=P1.trans hm2;obtain⟨v2,hv2⟩:∃vv:PV,(⟨aC E.l v.st,v.lv⟩:PV)=vv:=⟨_,rfl⟩
 rw[hv2]at h2 P2;have iw:Hid (v2.st=aC E.l v.st):=kH (by rw[<- hv2]);clear hv2 hm2;go_wp2_with fail
 refine(tJ E hE v2 _ h2).mono ?_;rintro e w3 ⟨rfl,v3,hv3,h3,eH⟩;have fU:=kH hv3;have dD:=eH.blk h2 hR2;have P3:=P2.trans eH;clear hv3 eH;have hnt:dF E.bs E.l v2.st=dF E.bs E.l (aC E.l v.st):=by rw[iw.out]
 rw[hnt];rw[iw.out]at fU;clear hnt;have hcall:=Lj E hE v3 w3 h3 f (x4,q4) (by rw[fU.out];exact HX.out);have HC4:=kH hcall;clear hcall;go_wp2_with fail
 refine(HC4.out).mono ?_;rintro e w4 ⟨k4,t4,a4,z4,A4,n4,c4,rfl,lD,v4,hv4,h4,iI⟩;have iY:=kH hv4;have fB:=iI.blk h3 dD;have P4:=P3.trans iI;replace lD:=aF.weak (Q:=fun g=>w.heap.size+1<=g) (fun g _ hg=>aac dD.lt hg) _ _ lD
 clear hv4;go_wp2_with fail
 generalize pI:w4.alloc (.cells #[.int .i64 k4,.string t4,.int .i64 a4,.int .i64 z4,.slice A4 n4 c4] 24)=w5
 have hb5:Below w4.heap.size w4 w5:=by rw[<- pI];exact ae _ _
 have hs5:w5.heap.size=w4.heap.size+1:=by rw[<- pI];simp
 have Ap:ak w5 w4.heap.size 24 #[.int .i64 k4,.string t4,.int .i64 a4,.int .i64 z4,.slice A4 n4 c4]:=by rw[<- pI];exact ak.new w4 _ _
 have jH:=aF.keeps (dB.of_below hb5) _ _ lD;have h5:=h4.below hb5;have fK:=fB.below hb5 fB.lt;have P5:=P4.trans (PM.of_below hb5);clear pI;obtain⟨v5,hv5⟩:∃vv,vv=v4:=⟨_,rfl⟩
 rw[<- hv5]at h5 P5 iY;clear hv5 hs5;refine(wF E hE v5 _ h5).mono ?_;rintro e w6 ⟨k6,t6,a6,z6,A6,n6,c6,rfl,qR,v6,hv6,h6,dM⟩;have lU:=kH hv6;have fI:=dM.blk h5 fK;have P6:=P5.trans dM;replace qR:=aF.weak (Q:=fun g=>w.heap.size+1<=g) (fun g _ hg=>aac fK.lt hg) _ _ qR
 clear hv6;have R8:=dM.blk h5 Ap;have hU6:=aF.keeps (dM.dZ h5) _ _ jH;have hq4:v5.st=q4:=iY.out;rw[hq4]at lU qR;obtain⟨o6,RU⟩:∃x,(jb E.bs E.l q4).1=x:=⟨_,rfl⟩
 rw[RU]at qR aV;clear RU hq4;go_wp2_with fail
 generalize uF:w6.alloc (.cells #[.int .i64 k6,.string t6,.int .i64 a6,.int .i64 z6,.slice A6 n6 c6] 24)=w7
 have dQ:Below w6.heap.size w6 w7:=by rw[<- uF];exact ae _ _
 have hs7:w7.heap.size=w6.heap.size+1:=by rw[<- uF];simp
 have MI:ak w7 w6.heap.size 24 #[.int .i64 k6,.string t6,.int .i64 a6,.int .i64 z6,.slice A6 n6 c6]:=by rw[<- uF];exact ak.new w6 _ _
 have lQ:=aF.keeps (dB.of_below dQ) _ _ qR;have h7:=h6.below dQ;have fH:=fI.below dQ fI.lt;have P7:=P6.trans (PM.of_below dQ);clear uF;have WG:=R8.below dQ R8.lt;have hU7:=aF.keeps (dB.of_below dQ) _ _ hU6;obtain⟨v7,hv7⟩:∃vv,vv=v6:=⟨_,rfl⟩
 rw[<- hv7]at h7 P7 lU;clear hv7 hs7;have hcall:=fO.out.block v7 w7 x8 q8 h7 (by rw[lU.out];exact HB.out);have HC8:=kH hcall;clear hcall;refine(HC8.out).mono ?_;rintro e w8 ⟨k8,t8,a8,z8,A8,n8,c8,rfl,rQ,v8,eX,h8,ed⟩;have ic:=kH eX;have eB:=ed.blk h7 fH;have P8:=P7.trans ed;replace rQ:=aF.weak (Q:=fun g=>w.heap.size+1<=g) (fun g _ hg=>aac fH.lt hg) _ _ rQ
 clear eX;have hX8:=ed.blk h7 WG;have hY8:=ed.blk h7 MI;have hU8:=aF.keeps (ed.dZ h7) _ _ hU7;have qd:=aF.keeps (ed.dZ h7) _ _ lQ;obtain⟨⟨r0,r1,r2,r3,r4⟩,-⟩:=hX8.five;obtain⟨⟨s0,s1,s2,s3,s4⟩,-⟩:=hY8.five;have Ej:=kH eB;have hl4:=hX8.lt;have hl6:=hY8.lt;clear hX8 hY8 MI WG R8 Ap;go_wp2_with fail
 generalize nX:w8.alloc (.cells #[.int .i64 k8,.string t8,.int .i64 a8,.int .i64 z8,.slice A8 n8 c8] 24)=w9
 have ek:Below w8.heap.size w8 w9:=by rw[<- nX];exact ae _ _
 have tL:w9.heap.size=w8.heap.size+1:=by rw[<- nX];simp
 have hX9:ak w9 w8.heap.size 24 #[.int .i64 k8,.string t8,.int .i64 a8,.int .i64 z8,.slice A8 n8 c8]:=by rw[<- nX];exact ak.new w8 _ _
 have om:=aF.keeps (dB.of_below ek) _ _ rQ;have h9:=h8.below ek;have fA:=eB.below ek eB.lt;have P9:=P8.trans (PM.of_below ek);clear nX;have hU9:=aF.keeps (dB.of_below ek) _ _ hU8;have nX:=aF.keeps (dB.of_below ek) _ _ qd;have rF:=kH (ym hU9 nX om (by have:=fA.lt;omega));generalize Ff:w9.alloc (.cells #[.int .i64 k4,.string t4,.int .i64 a4,.int .i64 z4,.slice A4 n4 c4,.int .i64 k6,.string t6,.int .i64 a6,.int .i64 z6,.slice A6 n6 c6,.int .i64 k8,.string t8,.int .i64 a8,.int .i64 z8,.slice A8 n8 c8] 24)=bJ at rF⊢
 have jW:Below w9.heap.size w9 bJ:=by rw[<- Ff];exact ae _ _
 have h10:=h9.below jW;have dV:=fA.below jW fA.lt;have jZ:=P9.trans (PM.of_below jW);obtain⟨v10,gL⟩:∃vv,vv=v8:=⟨_,rfl⟩
 rw[<- gL]at h10 jZ ic;have jf:=ic;rw[<- tL];clear gL Ff tL r0 r1 r2 r3 r4 s0 s1 s2 s3 s4 hX9;refine(dY E hE v10 _ h10 v.st.k 5 (dF E.bs E.l (aC E.l v.st)) (w.heap.size+1) (some ⟨w9.heap.size,0,none⟩) 3 3 [x4,o6,x8] rF.out).mono ?_;rintro e jF ⟨rfl,jC,nY⟩;have h11:=h10.below jC;have jq:=dV.below jC dV.lt;obtain⟨⟨r0,r1,r2,r3,r4⟩,g0,g1,g2,g3,g4⟩:=jq.five;go_wp2_with fail
 have bC:=kH (bO (v:=v) h11 (jZ.trans (PM.of_below jC)) rfl jq hgl nY);clear nY;refine bodyPost_ret (v:=.agg #[.int .i64 5,.string (bI (dF E.bs E.l (aC E.l v.st))),.int .i64 (bW E.l v10.st v.st.k [x4,o6,x8]),.int .i64 (v10.st.last:Int),.slice (some ⟨w9.heap.size,0,none⟩) 3 3]) (by simp[results,Tryz.results68,go_sem,r0,r1,r2,r3,r4]) rfl ?_;exact Eq.mp (congrArg (fun r=>bK E w v r _ _) (show(aI E.l v10.st v.st.k 5 (dF E.bs E.l (aC E.l v.st)) [x4,o6,x8],v10.st)=_ by rw[aV.out,jf.out])) bC.out
theorem vI{E:PE}{w wz:World}{v vz:PV}{g:Nat}{a0 b0 c0 d0 e0:Value}(hz:PW wz E vz)(hm:PM E w v wz vz)(hb:ak wz g 24 #[a0,b0,c0,d0,e0])(hg:w.heap.size<=g)(a b c d e:Value):
 PW (bZ wz g a b c d e) E vz/\PM E w v (bZ wz g a b c d e) vz/\ak (bZ wz g a b c d e) g 24 #[a,b,c,d,e]/\dB (fun x=>x≠g) wz (bZ wz g a b c d e):=by
 have hs:aA (fun x=>x=g) wz (bZ wz g a b c d e):=by
  unfold bZ;exact(((((aA.refl (fun x=>x=g) wz).setCell (.inl rfl) _).setCell (.inl rfl) _).setCell (.inl rfl) _).setCell (.inl rfl) _).setCell (.inl rfl) _
 have hne:E.gp≠g:=by
  rintro rfl;have h1:=hz.blk;unfold ak at h1 hb;rw[h1]at hb;simp at hb
 refine⟨⟨hz.blk.since hs hne,hz.own.since hs (fun x hx e1=>hz.own.fe hb (by decide) (by rw[hx,e1])),hz.toks.since hs (fun x hx e1=>hz.toks.fe hb (by decide) (by rw[hx,e1])),hz.at_,hz.good,hz.last⟩,⟨hm.since.step hs (fun x hx=>.inr (by omega)),hm.fresh⟩,?_,fun x _ hx hc=>hs.block x (aae.1 hc).1 hx⟩;have:=((((hb.gY 0 a).gY 1 b).gY 2 c).gY 3 d).gY 4 e;unfold bZ;simpa using this
def iA(w:World)(P:Nat->Prop)(g:Nat)(t:aa)(a b c d e:Value):Prop:=
 ak w g 24 #[a,b,c,d,e]/\aF w P t [a,b,c,d,e]
theorem iA.pm{w w':World}{P:Nat->Prop}{g:Nat}{t:aa}{a b c d e:Value}{E:PE}{v v':PV}(h:iA w P g t a b c d e)(hm:PM E w v w' v')(hw:PW w E v):iA w' P g t a b c d e:=
 ⟨hm.blk hw h.1,aF.keeps (hm.dZ hw) _ _ h.2⟩
theorem iA.below{w w':World}{P:Nat->Prop}{g:Nat}{t:aa}{a b c d e:Value}(h:iA w P g t a b c d e)(hb:Below w.heap.size w w'):iA w' P g t a b c d e:=
 ⟨ak.below h.1 hb (ak.lt h.1),aF.keeps (dB.of_below hb) _ _ h.2⟩
theorem iA.weak{w:World}{P Q:Nat->Prop}{g:Nat}{t:aa}{a b c d e:Value}(h:iA w P g t a b c d e)(zg:∀g,g<w.heap.size->P g->Q g):iA w Q g t a b c d e:=
 ⟨h.1,aF.weak zg _ _ h.2⟩
section
variable (E:PE) (hE:E.Ok) (v:PV) (w:World) (hpw:PW w E v) {p:PS}(hst:v.st=p)
include hE hpw hst
theorem qJ(x:bE)(hb:bM E.bs E.l p x=false):Calls Tryz.prog 128 #[.pointer (some ⟨E.gp,0,none⟩),.string (bI x)] w fun e w'=>e= .returned (.bool false)/\zh E w v p w':=by
 subst hst;have:=gI E hE v x w hpw;rw[hb]at this;unfold bN at this;rw[hb]at this;exact this
theorem pg(x:bE)(hb:bM E.bs E.l p x=true):Calls Tryz.prog 128 #[.pointer (some ⟨E.gp,0,none⟩),.string (bI x)] w fun e w'=>e= .returned (.bool true)/\zh E w v (aC E.l p) w':=by
 subst hst;have:=gI E hE v x w hpw;rw[hb]at this;unfold bN at this;rw[hb]at this;exact this
theorem kI(x:bE):Calls Tryz.prog 126 #[.pointer (some ⟨E.gp,0,none⟩),.string (bI x)] w fun e w'=>e= .returned (.bool (bM E.bs E.l p x))/\zh E w v (aH E.bs E.l p x) w':=by
 subst hst;exact kR E hE v x w hpw
theorem RL:Calls Tryz.prog 125 #[.pointer (some ⟨E.gp,0,none⟩)] w fun e w'=>e= .returned (.string (bI (dF E.bs E.l p)))/\zh E w v (dG E.l p) w':=by
 subst hst;exact tJ E hE v w hpw
theorem BA(x:bE){b:Bool}(hb:bM E.bs E.l p x=b):Calls Tryz.prog 66 #[.pointer (some ⟨E.gp,0,none⟩),.string (bI x)] w fun e w'=>e= .returned (.bool b)/\zh E w v p w':=by
 subst hst;refine(yu E hE v x w hpw).mono ?_;rintro e w' ⟨rfl,hb'⟩;exact⟨by rw[hb],v,rfl,hpw.below hb',PM.of_below hb'⟩
theorem vN{k:Nat}(hk:bP E.l p=k):Calls Tryz.prog 65 #[.pointer (some ⟨E.gp,0,none⟩)] w fun e w'=>e= .returned (.int .i64 (k:Int))/\zh E w v p w':=by
 subst hst;refine(pY E hE v w hpw).mono ?_;rintro e w' ⟨rfl,hb'⟩;exact⟨by rw[hk],v,rfl,hpw.below hb',PM.of_below hb'⟩
theorem MZ{x:bE}(hx:oo E.bs E.l p=x):Calls Tryz.prog 137 #[.pointer (some ⟨E.gp,0,none⟩)] w fun e w'=>e= .returned (.string (bI x))/\zh E w v p w':=by
 subst hst;refine(Vf E hE v w hpw).mono ?_;rintro e w' ⟨rfl,hb'⟩;exact⟨by rw[hx],v,rfl,hpw.below hb',PM.of_below hb'⟩
theorem Uf{b:Bool}(hb:C8 E.bs E.l p=b):Calls Tryz.prog 136 #[.pointer (some ⟨E.gp,0,none⟩)] w fun e w'=>e= .returned (.bool b)/\zh E w v p w':=by
 subst hst;refine(Q6 E hE v w hpw).mono ?_;rintro e w' ⟨rfl,hb'⟩;exact⟨by rw[hb],v,rfl,hpw.below hb',PM.of_below hb'⟩
theorem Q8(lv:Nat)(hlv:lv<=7){b:Bool}(hb:xX E.bs E.l p lv=b):Calls Tryz.prog 186 #[.pointer (some ⟨E.gp,0,none⟩),.int .i64 (lv:Int)] w fun e w'=>e= .returned (.bool b)/\zh E w v p w':=by
 subst hst;refine(OM E hE v lv w hpw hlv).mono ?_;rintro e w' ⟨rfl,hb'⟩;exact⟨by rw[hb],v,rfl,hpw.below hb',PM.of_below hb'⟩
theorem vJ(h5:bP E.l p≠5):Calls Tryz.prog 70 #[.pointer (some ⟨E.gp,0,none⟩)] w fun e w'=>e= .returned (.string (bI (bR E.bs E.l p.k)))/\zh E w v (aC E.l p) w':=by
 subst hst;refine(qN E hE v w hpw h5).mono ?_;rintro e w' ⟨rfl,h1,h2⟩;exact⟨rfl,_,rfl,h1,h2⟩
theorem Mi(c:Int)(x:bE):Calls Tryz.prog 69 #[.pointer (some ⟨E.gp,0,none⟩),.int .i64 c,.string (bI x)] w fun e w'=>(∃u,e= .returned u)/\zh E w v (iK E.l p c x) w':=by
 subst hst;exact rW E hE v c x w hpw
end
theorem Ga{s:bE}{l:List jP}{p:PS}{x:bE}(h:bM s l p x=true):bP l p≠5:=by
 unfold bM at h;simp at h;exact h.1
theorem lit2P{w:World}{P:Nat->Prop}{t1 t2:aa}{a b c d e a' b' c' d' e':Value}(h:aF w P t1 [a,b,c,d,e])(h':aF w P t2 [a',b',c',d',e'])(hP:P w.heap.size)(k:Int)(x:ByteArray)(at_ end_:Int):
 aF (w.alloc (.cells #[a,b,c,d,e,a',b',c',d',e'] 24)) P (.node k x at_ end_ [t1,t2]) [.int .i64 k,.string x,.int .i64 at_,.int .i64 end_,.slice (some ⟨w.heap.size,0,none⟩) 2 2]:=by
 have hk:dB P w (w.alloc (.cells #[a,b,c,d,e,a',b',c',d',e'] 24)):=dB.of_below (ae _ _);refine⟨some ⟨w.heap.size,0,none⟩,2,[[a,b,c,d,e],[a',b',c',d',e']],rfl,?_,fun g hg=>?_,_,_,rfl,aF.keeps hk _ _ h,_,_,rfl,aF.keeps hk _ _ h',rfl⟩
 ·exact aP.block (base:=0) (e:=24) (size:=5) (n:=2) (Nat.zero_le _) (ak.new w 24 _) (by simp only[maxLen];omega) (by simp)
 ·have:g=w.heap.size:=by simpa [Value.ownBlock] using hg.symm
  rw[this];exact hP
end Go.Proofs.YtoepemlnlpamlaaGreat
