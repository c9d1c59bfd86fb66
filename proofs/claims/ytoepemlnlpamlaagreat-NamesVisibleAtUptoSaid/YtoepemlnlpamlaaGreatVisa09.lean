/- The law NamesVisibleAt holds where what it reads is of bulk at most 1048576: it returns true, and its arguments read as before. Part 9: ParH ParI ParJ ParK ParL. -/
import Derived.Test.YtoepemlnlpamlaaGreatVisa08
set_option maxRecDepth 100000
set_option maxHeartbeats 4000000
namespace Go.Proofs.YtoepemlnlpamlaaGreat
open Go.RowKit
theorem Qc(E:PE)(I:E.Ok)(f:Nat)(IH:∀f',f'<=f->yT E f')(v:PV)(w:World)(B:List ae)(q:PS)(hpw:PW w E v)(h5:bM E.l v.st≠5)(hr:aP E.bs E.l (f+1) .args v.st=some (B,q)):Calls Tryz.prog 138 #[.pointer (some ⟨E.gp,0,none⟩)] w (VH E w v B q):=by
 obtain⟨i0,b,hz0,hz1,hz2⟩:=info_parts sF;rw[aP]at hr;have HR:=kH hr;have fE:=kH IH;have TY:=kH h5;clear hr IH h5;go_in
 go_wp2_with fail
 generalize BK:w.alloc (.cells #[] 24)=w2
 have d:Below w.heap.size w w2:=by rw[<- BK];exact ag _ _
 have m:bY w2 w.heap.size (.slice (some ⟨w.heap.size,0,none⟩) 0 0) 0 []:=by
  refine⟨[],?_,rfl,rfl⟩;have hn:=aj.new w 24 #[];rw[BK]at hn;exact aK.block (n:=0) (cur:=#[]) (aab _) hn (by simp[maxLen]) rfl
 have h2:=hpw.below d;have P2:=PM.of_below (E:=E) (v:=v) d;clear BK;refine(rf E I v _ h2 TY.out).mono ?_;rintro e w3 ⟨rfl,r,eB⟩;have P3:=P2.trans eB;obtain⟨L,U⟩:∃vv:PV,(⟨aB E.l v.st,v.lv⟩:PV)=vv:=⟨_,rfl⟩
 rw[U]at r P3 eB;have fO:Hid (L.st=aB E.l v.st):=kH (by rw[<- U]);have gT:=kH (m.keeps (eB.dX h2));clear U eB m;have his:=fun x w' (h:PW w' E L)=>zl E I L x w' h
 obtain⟨b1,j⟩:∃x,bF E.bs E.l L.st [41]=x:=⟨_,rfl⟩
 have HIS:=kH his;have H:=kH j;clear his j;go_wp2_with fail
 refine(HIS.out [41] _ r).mono ?_;rintro e w4 ⟨rfl,T⟩;rw[H.out];have O:=r.below T;have P4:=P3.trans (PM.of_below T);have CU:=kH (gT.out.keeps (bZ.of_below T));clear gT
 obtain⟨Q,hq1,hx1⟩:∃Q,q=aL E.bs E.l Q [41]/\(if bF E.bs E.l L.st [41] then B=[]/\Q=L.st else ∃x p,aP E.bs E.l f (.expr 1) L.st=some ([x],p)/\aP E.bs E.l f (.qR [x]) p=some (B,Q)):=by
  have:=HR.out;rw[<- fO.out,H.out]at this;rw[H.out];cases b1
  ·rw[if_neg (by simp)]at this
   obtain⟨x,p,h1,h2⟩:=fA this;obtain⟨ks,p2,r,O⟩:=wR h2;simp at O;exact⟨p2,O.2.symm,by rw[if_neg (by simp)];exact⟨x,p,h1,by rw[r,O.1]⟩⟩
  ·rw[if_pos rfl]at this
   injection this with this
   injection this with u e2
   exact⟨L.st,e2.symm,by rw[if_pos rfl];exact⟨u.symm,rfl⟩⟩
 have iF:=kH hq1;have R:=kH hx1;clear hq1 hx1 HR;go_upto_if 9 with fail
 go_cut [3] (fun s3 wx=> ∃A n c M,s3= .slice A n c/\bY wx w.heap.size (.slice A n c) n B/\M.st=Q/\PW wx E M/\PM E w v wx M)
 case first=>
  cases b1
  ·have P:=R.out
   rw[H.out,if_neg (by simp)]at P;obtain⟨x5,p5,V,hxl⟩:=P;have C:=(fE.out f (aab _)).expr 1 L w4 x5 p5 O (by omega) (by omega) V;have iN:=kH C;have VI:=kH hxl;have K:=Cw I.ends I.empty V (by rw[I.len];exact O.at_) ⟨by omega,by omega⟩;have hle:=K.1.1;clear C hxl V K R;go_wp2_with fail
   refine iN.out.mono ?_;rintro e w5 ⟨k5,t5,a5,z5,A5,n5,c5,rfl,jU,v5,hv5,h5,iC⟩;have HV5:=kH hv5;have P5:=P4.trans iC;clear hv5;obtain⟨Wy,MO,SL,FC⟩:=CU.out.keeps (iC.dX O);have SQ:aC w5 (fun g=>w.heap.size<=g/\some g≠(Value.slice (some ⟨w.heap.size,0,none⟩) 0 0).ownBlock) _ _:=aC.weak (fun g _ hg=>⟨aac P4.since.size hg,fun u=>by obtain⟨_,S,_,_⟩:=CU.out;have:=(S.lt g u.symm).2;omega⟩) _ _ jU;have hrz6:=P5.since.size;have El:=kH MO;have y:=kH SL;have z:=kH SQ;have Hn6:=kH FC;clear MO SL SQ FC jU;go_wp2_with (at_builtin;go_must (refine di _ rfl (.tmp 10) (.tmp 13) _ rfl (w.heap.size) 24 i0 _ 5 64 Tryz.underlying22 b hz0 hz1 hz2 rfl (.slice (some ⟨w.heap.size,0,none⟩) 0 0) 0 (List.flatten Wy) rfl (El.out.alloc _) ⟨w5.heap.size,0,none⟩ 1 1 [.int .i64 k5,.string t5,.int .i64 a5,.int .i64 z5,.slice A5 n5 c5] rfl rfl (ji _ _ _ _ _ _ _ (by go_simp) (by go_simp) (by go_simp) (by go_simp) (by go_simp)) (by simp[Value.oneCell']) (by simp only[maxLen];omega) (by omega) (by simp;omega) ?_);intro vn w6 F D J;obtain⟨A6,c6,nC,-,-⟩:=F.shape;subst nC;have YE:=kH F;have Ig:=kH D;have Z:=kH J;clear F D J)
   have Ch:=kH (bY.pushed y.out Hn6.out z.out YE.out Ig.out Z.out);obtain⟨h6,P6,MF⟩:=lG h5 P5 El.out (aab _) Ig.out;clear MF;go_loopg [3] f (fun gk s3 wr=> ∃A n c M ts,s3= .slice A n c/\bY wr w.heap.size (.slice A n c) n ts/\gk<=f/\aP E.bs E.l gk (.qR ts) M.st=some (B,Q)/\n<=M.st.k+1/\PW wr E M/\PM E w v wr M)
   case atStart=>exact⟨A6,1,c6,v5,[x5],rfl,Ch.out,aab _,by rw[HV5.out];exact VI.out,by omega,h6,P6⟩
   case round=>
    obtain⟨A7,W,c7,X,pX,rfl,CK,hgf,N,uq,h7,P7⟩:=hrel
    cases gk with
    | zero=>simp[aP]at N
    | succ gk=>
     rw[aP]at N;have rZ:=kH N;have Ns:=kH CK;have KQ:=h7.at_;have Ay:=I.most;clear N CK;obtain⟨b7,dF⟩:∃x,bF E.bs E.l X.st [44]=x:=⟨_,rfl⟩
     have t:=kH dF;clear dF;go_wp2_with fail
     refine(gm E I X [44] _ h7).mono ?_;rintro e w8 ⟨rfl,Y,ed,h8,dY⟩;rw[t.out];have gQ:=kH ed;have P8:=P7.trans dY;have nQ:=kH (Ns.out.keeps (dY.dX h7));clear ed dY;cases b7
     ·have G:Y.st=X.st:=by
       rw[gQ.out];unfold bI;rw[t.out,if_neg (by simp)]
      have hkk:pX=B/\X.st=Q:=by
       have:=rZ.out;rw[t.out,if_neg (by simp)]at this;simpa using this
      obtain⟨rfl,vM⟩:=hkk;have Hu:=kH (G.trans vM);clear G vM;go_wp2_with fail
      go_meet
      exact⟨_,_,_,Y,rfl,nQ.out,Hu.out,h8,P8⟩
     ·have G:Y.st=aB E.l X.st:=by
       rw[gQ.out];unfold bI;rw[t.out,if_pos rfl]
      obtain⟨x9,q9,GD,hnx⟩:∃x9 q9,aP E.bs E.l gk (.expr 1) Y.st=some ([x9],q9)/\aP E.bs E.l gk (.qR (pX++[x9])) q9=some (B,Q):=by
       have:=rZ.out;rw[t.out,if_pos rfl,<- G]at this;exact fA this
      have BG:Y.st.k=X.st.k+1:=by rw[G];rfl
      have K:=Cw I.ends I.empty GD (by rw[I.len];exact h8.at_) ⟨by omega,by omega⟩;have hlt:=K.1.1;have C:=(fE.out gk (by omega)).expr 1 Y w8 x9 q9 h8 (by omega) (by omega) GD;have iN:=kH C;have bG:=kH hnx;have Lu:=kH BG;have Sa:W<=5001:=by omega
      clear G K GD C hnx BG;go_wp2_with fail
      refine iN.out.mono ?_;rintro e w9 ⟨k9,t9,a9,z9,A9,n9,c9,rfl,nE,v9,gX,h9,fZ⟩;have kE:=kH gX;have P9:=P8.trans fZ;clear gX;obtain⟨Bh,oV,xR,qc⟩:=nQ.out.keeps (fZ.dX h8);have xS:aC w9 (fun g=>w.heap.size<=g/\some g≠(Value.slice A7 W c7).ownBlock) _ _:=aC.weak (fun g _ hg=>⟨aac P8.since.size hg,fun u=>by obtain⟨_,S,_,_⟩:=nQ.out;have:=(S.lt g u.symm).2;omega⟩) _ _ nE;have XU:=P9.since.size;have Ce:=kH oV;have Fh:=kH xR;have Fj:=kH xS;have Lj:=kH qc;clear oV xR xS qc nE;go_wp2_with (at_builtin;go_must (refine di _ rfl (.tmp 17) (.tmp 20) _ rfl (w.heap.size) 24 i0 _ 5 64 Tryz.underlying22 b hz0 hz1 hz2 rfl (.slice A7 W c7) W (List.flatten Bh) rfl (Ce.out.alloc _) ⟨w9.heap.size,0,none⟩ 1 1 [.int .i64 k9,.string t9,.int .i64 a9,.int .i64 z9,.slice A9 n9 c9] rfl rfl (ji _ _ _ _ _ _ _ (by go_simp) (by go_simp) (by go_simp) (by go_simp) (by go_simp)) (by simp[Value.oneCell']) (by simp only[maxLen];omega) (by omega) (by simp;omega) ?_);intro vn aV F D J;obtain⟨lJ,c10,nC,-,-⟩:=F.shape;subst nC;have Cc:=kH F;have su:=kH D;have Fs:=kH J;clear F D J)
      have sj:=kH (bY.pushed Fh.out Lj.out Fj.out Cc.out su.out Fs.out);obtain⟨h10,jV,ui⟩:=lG h9 P9 Ce.out (aab _) su.out;clear ui;go_roundg gk
      case measure=>omega
      case rel=>
       refine⟨lJ,W+1,c10,v9,pX++[x9],rfl,sj.out,by omega,by rw[kE.out];exact bG.out,?_,h10,jV⟩;rw[kE.out];have:=Lu.out;show W+1<=q9.k+1;omega
  ·have P:=R.out
   rw[H.out,if_pos rfl]at P;obtain⟨rfl,hq⟩:=P;have HQ:=kH hq.symm;clear hq;go_wp2_with fail
   go_meet
   exact⟨_,_,_,L,rfl,CU.out,HQ.out,O,P4⟩
 case rest=>
  obtain⟨Ak,nk,ck,M,rfl,hK,Jp,P,hmx⟩:=hcut;have HKx:=kH hK;have Ej:=kH Jp;clear hK Jp;go_wp2_with fail
  refine(kM E I M [41] _ P).mono ?_;rintro e nA ⟨rfl,v12,lC,h12,iL⟩;have G:v12.st=q:=by rw[lC,Ej.out,iF.out]
  have nH:=hmx.trans iL;have pK:=kH (HKx.out.keeps (iL.dX P));have HST:=kH G;clear lC iL G;go_wp2_with fail
  go_ret
  exact⟨Ak,nk,ck,rfl,pK.out,v12,HST.out,h12,nH⟩
theorem expr3_any(E:PE)(hE:E.Ok)(f:Nat)(IH:∀f',f'<=f->yT E f')(v:PV)(w:World)(t:ae)(q:PS)(P:PW w E v)(hr:aP E.bs E.l (f+1) (.expr 3) v.st=some ([t],q)):Calls Tryz.prog 134 #[.pointer (some ⟨E.gp,0,none⟩),.int .i64 3] w (bD E w v (t,q)):=by
 rw[aP,if_pos rfl]at hr;have HR:=kH hr;have fE:=kH IH;clear hr IH;have Y:=P.blk.lt;have hk2:w.cell? ⟨E.gp,2,none⟩=some (.int .i64 (v.st.k:Int)):=P.blk.cell 2;go_in
 go_wp2_with fail
 generalize G:w.alloc (.cells #[.int .i64 0,.string ⟨#[]⟩,.int .i64 0,.int .i64 0,.slice none 0 0] 24)=W1
 have K:Below w.heap.size w W1:=by rw[<- G];exact ag _ _
 have iE:aj W1 w.heap.size 24 #[.int .i64 0,.string ⟨#[]⟩,.int .i64 0,.int .i64 0,.slice none 0 0]:=by rw[<- G];exact aj.new w _ _
 have z:W1.heap.size=w.heap.size+1:=by rw[<- G];simp
 have N:=PM.of_below (E:=E) (v:=v) K;have h1:=P.below K;have P1:=N;have pR:=kH z;have jK:=kH N;clear G z N K;obtain⟨b0,X⟩:∃x,bF E.bs E.l v.st [110,111,116]=x:=⟨_,rfl⟩
 have B:=kH X;clear X hk2;refine(gm E hE v [110,111,116] _ h1).mono ?_;rintro e w2 ⟨rfl,T,u,I,O⟩;rw[B.out];have fU:=kH u;have F:=O.blk h1 iE;have P2:=P1.trans O;clear u O;cases b0
 ·have C:T.st=v.st:=by
   rw[fU.out];unfold bI;rw[B.out,if_neg (by simp)]
  have m:aP E.bs E.l f (.expr 4) T.st=some ([t],q):=by
   have:=HR.out;rw[B.out,if_neg (by simp)]at this;rw[C];exact this
  have A:=(fE.out f (aab _)).expr 4 T w2 t q I (by omega) (by omega) m;have iN:=kH A;clear C m A;go_wp2_with fail
  refine(iN.out).mono ?_;rintro e R ⟨j,b,U,z3,A3,d,c3,rfl,J,v3,D,h3,W⟩;have fO:=kH D;have V:=W.blk I F;have P3:=P2.trans W;replace J:=aC.weak (Q:=fun g=>w.heap.size+1<=g) (fun g _ hg=>aac F.lt hg) _ _ J
  clear D;have aN:=trivial;obtain⟨⟨r0,r1,r2,r3,r4⟩,g0,g1,g2,g3,g4⟩:=V.five;go_wp2_with fail
  have aO:=kH (bJ (v:=v) h3 P3 rfl V Y J);clear J;rw[fO.out]at aO;refine bodyPost_ret (v:=.agg #[.int .i64 j,.string b,.int .i64 U,.int .i64 z3,.slice A3 d c3]) (by simp[results,Tryz.results134,go_sem,r0,r1,r2,r3,r4]) rfl ?_;try rw[aN.out]
  exact aO.out
 ·have C:T.st=aB E.l v.st:=by
   rw[fU.out];unfold bI;rw[B.out,if_pos rfl]
  obtain⟨S,c,m,Z⟩:∃S c,aP E.bs E.l f (.expr 3) T.st=some ([S],c)/\(t,q)=(aI E.l c v.st.k 28 [110,111,116] [S],c):=by
   have:=HR.out;rw[B.out,if_pos rfl]at this;obtain⟨x,p,h1,I⟩:=fA this;simp at I;exact⟨x,p,by rw[C];exact h1,by rw[<- I.1,<- I.2]⟩
  have A:=(fE.out f (aab _)).expr 3 T w2 S c I (by omega) (by omega) m;have iN:=kH A;have aN:=kH Z;clear C m A Z;go_wp2_with fail
  refine(iN.out).mono ?_;rintro e R ⟨j,b,U,z3,A3,d,c3,rfl,J,v3,D,h3,W⟩;have fO:=kH D;have V:=W.blk I F;have P3:=P2.trans W;replace J:=aC.weak (Q:=fun g=>w.heap.size+1<=g) (fun g _ hg=>aac F.lt hg) _ _ J
  clear D;go_wp2_with fail
  generalize kS:R.alloc (.cells #[.int .i64 j,.string b,.int .i64 U,.int .i64 z3,.slice A3 d c3] 24)=w4
  have H:Below R.heap.size R w4:=by rw[<- kS];exact ag _ _
  have y:w4.heap.size=R.heap.size+1:=by rw[<- kS];simp
  have O4:aj w4 R.heap.size 24 #[.int .i64 j,.string b,.int .i64 U,.int .i64 z3,.slice A3 d c3]:=by rw[<- kS];exact aj.new R _ _
  have kZ:=aC.keeps (bZ.of_below H) _ _ J;have h4:=h3.below H;have ek:=V.below H V.lt;have P4:=P3.trans (PM.of_below H);clear kS;have yA:=kH (j5 kZ (by have:=ek.lt;omega));generalize jD:w4.alloc (.cells #[.int .i64 j,.string b,.int .i64 U,.int .i64 z3,.slice A3 d c3] 24)=w5 at yA⊢
  have L:Below w4.heap.size w4 w5:=by rw[<- jD];exact ag _ _
  have h5:=h4.below L;have eZ:=ek.below L ek.lt;have P5:=P4.trans (PM.of_below L);clear jD;obtain⟨v5,n⟩:∃vv,vv=v3:=⟨_,rfl⟩
  rw[<- n]at h5 P5 fO;have HV5:=fO;rw[<- y];clear n O4 y;refine(dV E hE v5 _ h5 v.st.k 28 [110,111,116] (w.heap.size+1) (some ⟨w4.heap.size,0,none⟩) 1 1 [S] yA.out).mono ?_;rintro e w6 ⟨rfl,M,ry⟩;have h6:=h5.below M;have gI:=eZ.below M eZ.lt;obtain⟨⟨r0,r1,r2,r3,r4⟩,g0,g1,g2,g3,g4⟩:=gI.five;go_wp2_with fail
  have aO:=kH (bJ (v:=v) h6 (P5.trans (PM.of_below M)) rfl gI Y ry);clear ry;refine bodyPost_ret (v:=.agg #[.int .i64 28,.string (bf [110,111,116]),.int .i64 (bP E.l v5.st v.st.k [S]),.int .i64 (v5.st.last:Int),.slice (some ⟨w4.heap.size,0,none⟩) 1 1]) (by simp[results,Tryz.results134,go_sem,r0,r1,r2,r3,r4]) rfl ?_;exact Eq.mp (congrArg (fun r=>bD E w v r _ _) (show(aI E.l v5.st v.st.k 28 [110,111,116] [S],v5.st)=_ by rw[aN.out,HV5.out])) aO.out
theorem expr7_any(E:PE)(hE:E.Ok)(f:Nat)(IH:∀f',f'<=f->yT E f')(v:PV)(w:World)(t:ae)(q:PS)(P:PW w E v)(hr:aP E.bs E.l (f+1) (.expr 7) v.st=some ([t],q)):Calls Tryz.prog 134 #[.pointer (some ⟨E.gp,0,none⟩),.int .i64 7] w (bD E w v (t,q)):=by
 rw[aP,if_neg (by decide),if_pos rfl]at hr;have HR:=kH hr;have fE:=kH IH;clear hr IH;have Y:=P.blk.lt;have hk2:w.cell? ⟨E.gp,2,none⟩=some (.int .i64 (v.st.k:Int)):=P.blk.cell 2;go_in
 go_wp2_with fail
 generalize G:w.alloc (.cells #[.int .i64 0,.string ⟨#[]⟩,.int .i64 0,.int .i64 0,.slice none 0 0] 24)=W1
 have K:Below w.heap.size w W1:=by rw[<- G];exact ag _ _
 have iE:aj W1 w.heap.size 24 #[.int .i64 0,.string ⟨#[]⟩,.int .i64 0,.int .i64 0,.slice none 0 0]:=by rw[<- G];exact aj.new w _ _
 have z:W1.heap.size=w.heap.size+1:=by rw[<- G];simp
 have N:=PM.of_below (E:=E) (v:=v) K;have h1:=P.below K;have P1:=N;have pR:=kH z;have jK:=kH N;clear G z N K;obtain⟨b0,X⟩:∃x,bF E.bs E.l v.st [45]=x:=⟨_,rfl⟩
 have B:=kH X;clear X hk2;refine(gm E hE v [45] _ h1).mono ?_;rintro e w2 ⟨rfl,T,u,I,O⟩;rw[B.out];have fU:=kH u;have F:=O.blk h1 iE;have P2:=P1.trans O;clear u O;cases b0
 ·have C:T.st=v.st:=by
   rw[fU.out];unfold bI;rw[B.out,if_neg (by simp)]
  have m:aP E.bs E.l f .operand T.st=some ([t],q):=by
   have:=HR.out;rw[B.out,if_neg (by simp)]at this;rw[C];exact this
  have A:=(fE.out f (aab _)).operand T w2 t q I m;have iN:=kH A;clear C m A;go_wp2_with fail
  refine(iN.out).mono ?_;rintro e R ⟨j,b,U,z3,A3,d,c3,rfl,J,v3,D,h3,W⟩;have fO:=kH D;have V:=W.blk I F;have P3:=P2.trans W;replace J:=aC.weak (Q:=fun g=>w.heap.size+1<=g) (fun g _ hg=>aac F.lt hg) _ _ J
  clear D;have aN:=trivial;obtain⟨⟨r0,r1,r2,r3,r4⟩,g0,g1,g2,g3,g4⟩:=V.five;go_wp2_with fail
  have aO:=kH (bJ (v:=v) h3 P3 rfl V Y J);clear J;rw[fO.out]at aO;refine bodyPost_ret (v:=.agg #[.int .i64 j,.string b,.int .i64 U,.int .i64 z3,.slice A3 d c3]) (by simp[results,Tryz.results134,go_sem,r0,r1,r2,r3,r4]) rfl ?_;try rw[aN.out]
  exact aO.out
 ·have C:T.st=aB E.l v.st:=by
   rw[fU.out];unfold bI;rw[B.out,if_pos rfl]
  obtain⟨S,c,m,Z⟩:∃S c,aP E.bs E.l f (.expr 7) T.st=some ([S],c)/\(t,q)=(aI E.l c v.st.k 28 [45] [S],c):=by
   have:=HR.out;rw[B.out,if_pos rfl]at this;obtain⟨x,p,h1,I⟩:=fA this;simp at I;exact⟨x,p,by rw[C];exact h1,by rw[<- I.1,<- I.2]⟩
  have A:=(fE.out f (aab _)).expr 7 T w2 S c I (by omega) (by omega) m;have iN:=kH A;have aN:=kH Z;clear C m A Z;go_wp2_with fail
  refine(iN.out).mono ?_;rintro e R ⟨j,b,U,z3,A3,d,c3,rfl,J,v3,D,h3,W⟩;have fO:=kH D;have V:=W.blk I F;have P3:=P2.trans W;replace J:=aC.weak (Q:=fun g=>w.heap.size+1<=g) (fun g _ hg=>aac F.lt hg) _ _ J
  clear D;go_wp2_with fail
  generalize kS:R.alloc (.cells #[.int .i64 j,.string b,.int .i64 U,.int .i64 z3,.slice A3 d c3] 24)=w4
  have H:Below R.heap.size R w4:=by rw[<- kS];exact ag _ _
  have y:w4.heap.size=R.heap.size+1:=by rw[<- kS];simp
  have O4:aj w4 R.heap.size 24 #[.int .i64 j,.string b,.int .i64 U,.int .i64 z3,.slice A3 d c3]:=by rw[<- kS];exact aj.new R _ _
  have kZ:=aC.keeps (bZ.of_below H) _ _ J;have h4:=h3.below H;have ek:=V.below H V.lt;have P4:=P3.trans (PM.of_below H);clear kS;have yA:=kH (j5 kZ (by have:=ek.lt;omega));generalize jD:w4.alloc (.cells #[.int .i64 j,.string b,.int .i64 U,.int .i64 z3,.slice A3 d c3] 24)=w5 at yA⊢
  have L:Below w4.heap.size w4 w5:=by rw[<- jD];exact ag _ _
  have h5:=h4.below L;have eZ:=ek.below L ek.lt;have P5:=P4.trans (PM.of_below L);clear jD;obtain⟨v5,n⟩:∃vv,vv=v3:=⟨_,rfl⟩
  rw[<- n]at h5 P5 fO;have HV5:=fO;rw[<- y];clear n O4 y;refine(dV E hE v5 _ h5 v.st.k 28 [45] (w.heap.size+1) (some ⟨w4.heap.size,0,none⟩) 1 1 [S] yA.out).mono ?_;rintro e w6 ⟨rfl,M,ry⟩;have h6:=h5.below M;have gI:=eZ.below M eZ.lt;obtain⟨⟨r0,r1,r2,r3,r4⟩,g0,g1,g2,g3,g4⟩:=gI.five;go_wp2_with fail
  have aO:=kH (bJ (v:=v) h6 (P5.trans (PM.of_below M)) rfl gI Y ry);clear ry;refine bodyPost_ret (v:=.agg #[.int .i64 28,.string (bf [45]),.int .i64 (bP E.l v5.st v.st.k [S]),.int .i64 (v5.st.last:Int),.slice (some ⟨w4.heap.size,0,none⟩) 1 1]) (by simp[results,Tryz.results134,go_sem,r0,r1,r2,r3,r4]) rfl ?_;exact Eq.mp (congrArg (fun r=>bD E w v r _ _) (show(aI E.l v5.st v.st.k 28 [45] [S],v5.st)=_ by rw[aN.out,HV5.out])) aO.out
theorem zk{w:World}{lo:Nat}{G H:ae}{a b c d e A B C D E:Value}(h:aC w (fun g=>lo<=g) G [a,b,c,d,e])(I:aC w (fun g=>lo<=g) H [A,B,C,D,E])(F:lo<=w.heap.size):
 bY (w.alloc (.cells #[a,b,c,d,e,A,B,C,D,E] 24)) lo (.slice (some ⟨w.heap.size,0,none⟩) 2 2) 2 [G,H]:=
 Kw (ts:=[G,H]) (vals:=[[a,b,c,d,e],[A,B,C,D,E]]) ⟨_,_,rfl,h,_,_,rfl,I,rfl⟩ F (by simp)
theorem Zg(E:PE)(n:E.Ok)(f:Nat)(IH:∀f',f'<=f->yT E f')(v:PV)(w:World)(t:ae)(q:PS)(d:PW w E v)(hr:aP E.bs E.l (f+1) .place v.st=some ([t],q)):Calls Tryz.prog 139 #[.pointer (some ⟨E.gp,0,none⟩)] w (bD E w v (t,q)):=by
 rw[aP]at hr;have HR:=kH hr;have fE:=kH IH;clear hr IH;have m:=d.blk.lt;have hk2:w.cell? ⟨E.gp,2,none⟩=some (.int .i64 (v.st.k:Int)):=d.blk.cell 2;go_in
 go_wp2_with fail
 generalize R:w.alloc (.cells #[.int .i64 0,.string ⟨#[]⟩,.int .i64 0,.int .i64 0,.slice none 0 0] 24)=W1
 have D:Below w.heap.size w W1:=by rw[<- R];exact ag _ _
 have iE:aj W1 w.heap.size 24 #[.int .i64 0,.string ⟨#[]⟩,.int .i64 0,.int .i64 0,.slice none 0 0]:=by rw[<- R];exact aj.new w _ _
 have hs1:W1.heap.size=w.heap.size+1:=by rw[<- R];simp
 have j:=PM.of_below (E:=E) (v:=v) D;have h1:=d.below D;have P1:=j;have pR:=kH hs1;have jK:=kH j;clear R hs1 j D;clear hk2;refine(F8 E n v _ h1).mono ?_;rintro e w2 ⟨k2,t2,a2,z2,A2,n2,c2,rfl,mV,v2,hv2,h2,hm2⟩;have fU:=kH hv2;have hR2:=hm2.blk h1 iE;have P2:=P1.trans hm2;replace mV:=aC.weak (Q:=fun g=>w.heap.size+1<=g) (fun g _ hg=>aac iE.lt hg) _ _ mV
 clear hv2;obtain⟨U,c⟩:∃x,(nR E.bs E.l v.st).1=x:=⟨_,rfl⟩
 rw[c]at mV;have zD:=kH c;clear c;go_wp2_with fail
 generalize S:w2.alloc (.cells #[.int .i64 k2,.string t2,.int .i64 a2,.int .i64 z2,.slice A2 n2 c2] 24)=w3
 have T:Below w2.heap.size w2 w3:=by rw[<- S];exact ag _ _
 have hs3:w3.heap.size=w2.heap.size+1:=by rw[<- S];simp
 have SF:aj w3 w2.heap.size 24 #[.int .i64 k2,.string t2,.int .i64 a2,.int .i64 z2,.slice A2 n2 c2]:=by rw[<- S];exact aj.new w2 _ _
 have jN:=aC.keeps (bZ.of_below T) _ _ mV;have h3:=h2.below T;have cZ:=hR2.below T hR2.lt;have P3:=P2.trans (PM.of_below T);clear S;obtain⟨v3,hv3⟩:∃vv,vv=v2:=⟨_,rfl⟩
 rw[<- hv3]at h3 P3 fU;clear hv3;obtain⟨b0,hb0⟩:∃x,bF E.bs E.l v3.st [91]=x:=⟨_,rfl⟩
 have C:=kH hb0;clear hb0;refine(gm E n v3 [91] _ h3).mono ?_;rintro e w4 ⟨rfl,X,hv4,W,iD⟩;rw[C.out];have jf:=kH hv4;have ek:=iD.blk h3 cZ;have P4:=P3.trans iD;have O4:=iD.blk h3 SF;have kZ:=aC.keeps (iD.dX h3) _ _ jN;clear hv4 iD;cases b0
 ·have A:X.st=v3.st:=by
   rw[jf.out];unfold bI;rw[C.out,if_neg (by simp)]
  have HST:=kH A;obtain⟨b1,D⟩:∃x,bF E.bs E.l X.st [46]=x:=⟨_,rfl⟩
  have I:=kH D;clear A D SF hs3;go_wp2_with fail
  refine(gm E n X [46] _ W).mono ?_;rintro e w5 ⟨rfl,H,K,y,O⟩;rw[I.out];have P:=kH K;have eZ:=O.blk W ek;have P5:=P4.trans O;have V:=O.blk W O4;have b:=aC.keeps (O.dX W) _ _ kZ;clear K O O4;cases b1
  ·have A:H.st=X.st:=by
    rw[P.out];unfold bI;rw[I.out,if_neg (by simp)]
   have B:(t,q)=(U,H.st):=by
    have:=HR.out;rw[<- fU.out,C.out,if_neg (by simp),<- HST.out,I.out,if_neg (by simp),zD.out]at this;simp at this;rw[A,<- this.1,<- this.2]
   have aN:=kH B;obtain⟨⟨s0,s1,s2,s3,s4⟩,-⟩:=V.five;obtain⟨⟨r0,r1,r2,r3,r4⟩,g0,g1,g2,g3,g4⟩:=eZ.five;clear A B;go_wp2_with fail
   have aO:=kH (bJ (v:=v) y P5 rfl eZ m b);clear b;refine bodyPost_ret (v:=.agg #[.int .i64 k2,.string t2,.int .i64 a2,.int .i64 z2,.slice A2 n2 c2]) (by simp[results,Tryz.results139,go_sem,r0,r1,r2,r3,r4]) rfl ?_;rw[aN.out];exact aO.out
  ·have A:H.st=aB E.l X.st:=by
    rw[P.out];unfold bI;rw[I.out,if_pos rfl]
   have B:(t,q)=(aI E.l (dK E.l H.st) v.st.k 22 (cK E.bs E.l H.st) [U],dK E.l H.st):=by
    have:=HR.out;rw[<- fU.out,C.out,if_neg (by simp),<- HST.out,I.out,if_pos rfl,zD.out]at this;simp at this;rw[A,<- this.1,<- this.2]
   have aN:=kH B;clear A B;go_wp2_with fail
   refine(uF E n H _ y).mono ?_;rintro e N ⟨rfl,v7,L,h7,G⟩;have lT:=kH L;have fD:=G.blk y eZ;have P7:=P5.trans G;have O3:=G.blk y V;have lQ:=aC.keeps (G.dX y) _ _ b;obtain⟨⟨s0,s1,s2,s3,s4⟩,-⟩:=O3.five;clear L G O3 V;go_wp2_with fail
   have nQ:=kH (j5 lQ (by have:=fD.lt;omega));generalize oz:N.alloc (.cells #[.int .i64 k2,.string t2,.int .i64 a2,.int .i64 z2,.slice A2 n2 c2] 24)=w8 at nQ⊢
   have Z:Below N.heap.size N w8:=by rw[<- oz];exact ag _ _
   have u:=h7.below Z;have eF:=fD.below Z fD.lt;have P8:=P7.trans (PM.of_below Z);clear oz;obtain⟨M,ed⟩:∃vv,vv=v7:=⟨_,rfl⟩
   rw[<- ed]at u P8 lT;have gQ:=lT;clear ed s0 s1 s2 s3 s4;refine(dV E n M _ u v.st.k 22 (cK E.bs E.l H.st) (w.heap.size+1) (some ⟨N.heap.size,0,none⟩) 1 1 [U] nQ.out).mono ?_;rintro e w9 ⟨rfl,z,nE⟩;have h9:=u.below z;have eU:=eF.below z eF.lt;obtain⟨⟨r0,r1,r2,r3,r4⟩,g0,g1,g2,g3,g4⟩:=eU.five;go_wp2_with fail
   have aO:=kH (bJ (v:=v) h9 (P8.trans (PM.of_below z)) rfl eU m nE);clear nE;refine bodyPost_ret (v:=.agg #[.int .i64 22,.string (bf (cK E.bs E.l H.st)),.int .i64 (bP E.l M.st v.st.k [U]),.int .i64 (M.st.last:Int),.slice (some ⟨N.heap.size,0,none⟩) 1 1]) (by simp[results,Tryz.results139,go_sem,r0,r1,r2,r3,r4]) rfl ?_;exact Eq.mp (congrArg (fun r=>bD E w v r _ _) (show(aI E.l M.st v.st.k 22 (cK E.bs E.l H.st) [U],M.st)=_ by rw[aN.out,gQ.out])) aO.out
 ·have A:X.st=aB E.l v3.st:=by
   rw[jf.out];unfold bI;rw[C.out,if_pos rfl]
  obtain⟨x5,q5,hx,B⟩:∃x5 q5,aP E.bs E.l f (.expr 1) X.st=some ([x5],q5)/\(t,q)=(aI E.l (aL E.bs E.l q5 [93]) v.st.k 21 [] [U,x5],aL E.bs E.l q5 [93]):=by
   have:=HR.out;rw[<- fU.out,C.out,if_pos rfl,zD.out]at this;obtain⟨x,p,h1,h2⟩:=fA this;simp at h2;exact⟨x,p,by rw[A];exact h1,by rw[<- h2.1,<- h2.2]⟩
  have J:=(fE.out f (aab _)).expr 1 X w4 x5 q5 W (by omega) (by omega) hx;have iN:=kH J;have aN:=kH B;clear A hx J B SF hs3;go_wp2_with fail
  refine(iN.out).mono ?_;rintro e w5 ⟨k5,t5,a5,z5,A5,n5,c5,rfl,b,H,K,y,O⟩;have P:=kH K;have eZ:=O.blk W ek;have P5:=P4.trans O;replace b:=aC.weak (Q:=fun g=>w.heap.size+1<=g) (fun g _ hg=>aac ek.lt hg) _ _ b
  clear K;have V:=O.blk W O4;have hU5:=aC.keeps (O.dX W) _ _ kZ;go_wp2_with fail
  have hX5l:=V.lt;generalize uJ:w5.alloc (.cells #[.int .i64 k5,.string t5,.int .i64 a5,.int .i64 z5,.slice A5 n5 c5] 24)=w6
  have F:Below w5.heap.size w5 w6:=by rw[<- uJ];exact ag _ _
  have hs6:w6.heap.size=w5.heap.size+1:=by rw[<- uJ];simp
  have Vq:aj w6 w5.heap.size 24 #[.int .i64 k5,.string t5,.int .i64 a5,.int .i64 z5,.slice A5 n5 c5]:=by rw[<- uJ];exact aj.new w5 _ _
  have ry:=aC.keeps (bZ.of_below F) _ _ b;have h6:=y.below F;have gI:=eZ.below F eZ.lt;have P6:=P5.trans (PM.of_below F);clear uJ;have hY6:=V.below F V.lt;have hU6:=aC.keeps (bZ.of_below F) _ _ hU5;refine(kM E n H [93] _ h6).mono ?_;rintro e N ⟨rfl,v7,L,h7,G⟩;have lT:=kH L;rw[P.out]at lT;have fD:=G.blk h6 gI;have P7:=P6.trans G;have O3:=G.blk h6 Vq;have ZX:=G.blk h6 hY6;have lQ:=aC.keeps (G.dX h6) _ _ ry;have hU7:=aC.keeps (G.dX h6) _ _ hU6;obtain⟨⟨r0,r1,r2,r3,r4⟩,-⟩:=O3.five;obtain⟨⟨s0,s1,s2,s3,s4⟩,-⟩:=ZX.five;have Y:=kH fD;clear L G O3 ZX O4 V Vq hY6 hs6;go_wp2_with fail
  have nQ:=kH (zk hU7 lQ (by have:=Y.out.lt;omega));generalize oz:N.alloc (.cells #[.int .i64 k2,.string t2,.int .i64 a2,.int .i64 z2,.slice A2 n2 c2,.int .i64 k5,.string t5,.int .i64 a5,.int .i64 z5,.slice A5 n5 c5] 24)=w8 at nQ⊢
  have Z:Below N.heap.size N w8:=by rw[<- oz];exact ag _ _
  have u:=h7.below Z;have eF:=Y.out.below Z Y.out.lt;have P8:=P7.trans (PM.of_below Z);obtain⟨M,ed⟩:∃vv,vv=v7:=⟨_,rfl⟩
  rw[<- ed]at u P8 lT;have gQ:=lT;clear ed oz r0 r1 r2 r3 r4 s0 s1 s2 s3 s4;refine(dV E n M _ u v.st.k 21 [] (w.heap.size+1) (some ⟨N.heap.size,0,none⟩) 2 2 [U,x5] nQ.out).mono ?_;rintro e w9 ⟨rfl,z,nE⟩;have h9:=u.below z;have eU:=eF.below z eF.lt;obtain⟨⟨r0,r1,r2,r3,r4⟩,g0,g1,g2,g3,g4⟩:=eU.five;go_wp2_with fail
  have aO:=kH (bJ (v:=v) h9 (P8.trans (PM.of_below z)) rfl eU m nE);clear nE;refine bodyPost_ret (v:=.agg #[.int .i64 21,.string (bf []),.int .i64 (bP E.l M.st v.st.k [U,x5]),.int .i64 (M.st.last:Int),.slice (some ⟨N.heap.size,0,none⟩) 2 2]) (by simp[results,Tryz.results139,go_sem,r0,r1,r2,r3,r4]) rfl ?_;exact Eq.mp (congrArg (fun r=>bD E w v r _ _) (show(aI E.l M.st v.st.k 21 [] [U,x5],M.st)=_ by rw[aN.out,gQ.out])) aO.out
theorem zi{w:World}{lo:Nat}{H I J:ae}{a b c d e A B C D E x y z u o:Value}(h:aC w (fun g=>lo<=g) H [a,b,c,d,e])(K:aC w (fun g=>lo<=g) I [A,B,C,D,E])(F:aC w (fun g=>lo<=g) J [x,y,z,u,o])(G:lo<=w.heap.size):
 bY (w.alloc (.cells #[a,b,c,d,e,A,B,C,D,E,x,y,z,u,o] 24)) lo (.slice (some ⟨w.heap.size,0,none⟩) 3 3) 3 [H,I,J]:=
 Kw (ts:=[H,I,J]) (vals:=[[a,b,c,d,e],[A,B,C,D,E],[x,y,z,u,o]]) ⟨_,_,rfl,h,_,_,rfl,K,_,_,rfl,F,rfl⟩ G (by simp)
theorem PY(E:PE)(t:E.Ok)(f:Nat)(IH:yT E f)(v:PV)(w:World)(r:ae×PS)(O:PW w E v)(F:bM E.l v.st≠5)(G:uT E.bs E.l f v.st=some r):Calls Tryz.prog 68 #[.pointer (some ⟨E.gp,0,none⟩)] w (bD E w v r):=by
 obtain⟨T,R,U,q8,hx,hb,j⟩:∃T R U q8,ug E.bs E.l f (dK E.l (aB E.l v.st))=some (T,R)/\aP E.bs E.l f .block (jR E.bs E.l R).2=some ([U],q8)/\r=(aI E.l q8 v.st.k 5 (cK E.bs E.l (aB E.l v.st)) [T,(jR E.bs E.l R).1,U],q8):=by
  unfold uT at G;simp only at G;split at G
  ·cases G
  ·rename_i x p h
   split at G
   ·rename_i b p3 u
    cases G
    exact⟨x,p,b,p3,h,u,rfl⟩
   ·cases G
 have HX:=kH hx;have HB:=kH hb;have aN:=kH j;have fE:=kH IH;have TY:=kH F;clear G hx hb j IH F;have hgl:=O.blk.lt;have hk2:w.cell? ⟨E.gp,2,none⟩=some (.int .i64 (v.st.k:Int)):=O.blk.cell 2;go_in
 go_wp2_with fail
 generalize C:w.alloc (.cells #[.int .i64 0,.string ⟨#[]⟩,.int .i64 0,.int .i64 0,.slice none 0 0] 24)=W1
 have L:Below w.heap.size w W1:=by rw[<- C];exact ag _ _
 have iE:aj W1 w.heap.size 24 #[.int .i64 0,.string ⟨#[]⟩,.int .i64 0,.int .i64 0,.slice none 0 0]:=by rw[<- C];exact aj.new w _ _
 have d:W1.heap.size=w.heap.size+1:=by rw[<- C];simp
 have M:=PM.of_below (E:=E) (v:=v) L;have h1:=O.below L;have P1:=M;have pR:=kH d;have jK:=kH M;clear C d M L;clear hk2;refine(rf E t v _ h1 TY.out).mono ?_;rintro e w2 ⟨rfl,u,N⟩;have hR2:=N.blk h1 iE;have P2:=P1.trans N;obtain⟨v2,P⟩:∃S:PV,(⟨aB E.l v.st,v.lv⟩:PV)=S:=⟨_,rfl⟩
 rw[P]at u P2;have fU:Hid (v2.st=aB E.l v.st):=kH (by rw[<- P]);clear P N;go_wp2_with fail
 refine(uF E t v2 _ u).mono ?_;rintro e w3 ⟨rfl,v3,c,h3,eB⟩;have fO:=kH c;have cZ:=eB.blk u hR2;have P3:=P2.trans eB;clear c eB;have n:cK E.bs E.l v2.st=cK E.bs E.l (aB E.l v.st):=by rw[fU.out]
 rw[n];rw[fU.out]at fO;clear n;have A:=NK E t v3 w3 h3 f (T,R) (by rw[fO.out];exact HX.out);have HC4:=kH A;clear A;go_wp2_with fail
 refine(HC4.out).mono ?_;rintro e Z ⟨k4,t4,a4,z4,A4,n4,c4,rfl,kZ,v4,hv4,h4,iD⟩;have jf:=kH hv4;have ek:=iD.blk h3 cZ;have P4:=P3.trans iD;replace kZ:=aC.weak (Q:=fun g=>w.heap.size+1<=g) (fun g _ q=>aac cZ.lt q) _ _ kZ
 clear hv4;go_wp2_with fail
 generalize jD:Z.alloc (.cells #[.int .i64 k4,.string t4,.int .i64 a4,.int .i64 z4,.slice A4 n4 c4] 24)=w5
 have D:Below Z.heap.size Z w5:=by rw[<- jD];exact ag _ _
 have hs5:w5.heap.size=Z.heap.size+1:=by rw[<- jD];simp
 have BJ:aj w5 Z.heap.size 24 #[.int .i64 k4,.string t4,.int .i64 a4,.int .i64 z4,.slice A4 n4 c4]:=by rw[<- jD];exact aj.new Z _ _
 have jU:=aC.keeps (bZ.of_below D) _ _ kZ;have F:=h4.below D;have eZ:=ek.below D ek.lt;have P5:=P4.trans (PM.of_below D);clear jD;obtain⟨v5,hv5⟩:∃S,S=v4:=⟨_,rfl⟩
 rw[<- hv5]at F P5 jf;clear hv5 hs5;refine(xA E t v5 _ F).mono ?_;rintro e z ⟨k6,t6,a6,z6,A6,n6,c6,rfl,ry,v6,hv6,h6,gU⟩;have lU:=kH hv6;have gI:=gU.blk F eZ;have P6:=P5.trans gU;replace ry:=aC.weak (Q:=fun g=>w.heap.size+1<=g) (fun g _ q=>aac eZ.lt q) _ _ ry
 clear hv6;have Vq:=gU.blk F BJ;have hU6:=aC.keeps (gU.dX F) _ _ jU;have m:v5.st=R:=jf.out;rw[m]at lU ry;obtain⟨o6,Vd⟩:∃x,(jR E.bs E.l R).1=x:=⟨_,rfl⟩
 rw[Vd]at ry aN;clear Vd m;go_wp2_with fail
 generalize rP:z.alloc (.cells #[.int .i64 k6,.string t6,.int .i64 a6,.int .i64 z6,.slice A6 n6 c6] 24)=w7
 have V:Below z.heap.size z w7:=by rw[<- rP];exact ag _ _
 have hs7:w7.heap.size=z.heap.size+1:=by rw[<- rP];simp
 have O3:aj w7 z.heap.size 24 #[.int .i64 k6,.string t6,.int .i64 a6,.int .i64 z6,.slice A6 n6 c6]:=by rw[<- rP];exact aj.new z _ _
 have lQ:=aC.keeps (bZ.of_below V) _ _ ry;have I:=h6.below V;have fD:=gI.below V gI.lt;have P7:=P6.trans (PM.of_below V);clear rP;have ZX:=Vq.below V Vq.lt;have hU7:=aC.keeps (bZ.of_below V) _ _ hU6;obtain⟨v7,hv7⟩:∃S,S=v6:=⟨_,rfl⟩
 rw[<- hv7]at I P7 lU;clear hv7 hs7;have A:=fE.out.block v7 w7 U q8 I (by rw[lU.out];exact HB.out);have HC8:=kH A;clear A;refine(HC8.out).mono ?_;rintro e y ⟨k8,t8,a8,z8,A8,n8,c8,rfl,sM,v8,ed,h8,W⟩;have gQ:=kH ed;have eF:=W.blk I fD;have P8:=P7.trans W;replace sM:=aC.weak (Q:=fun g=>w.heap.size+1<=g) (fun g _ q=>aac fD.lt q) _ _ sM
 clear ed;have J:=W.blk I ZX;have K:=W.blk I O3;have hU8:=aC.keeps (W.dX I) _ _ hU7;have oz:=aC.keeps (W.dX I) _ _ lQ;obtain⟨⟨r0,r1,r2,r3,r4⟩,-⟩:=J.five;obtain⟨⟨s0,s1,s2,s3,s4⟩,-⟩:=K.five;have FR:=kH eF;have hl4:=J.lt;have zZ:=K.lt;clear J K O3 ZX Vq BJ;go_wp2_with fail
 generalize Y:y.alloc (.cells #[.int .i64 k8,.string t8,.int .i64 a8,.int .i64 z8,.slice A8 n8 c8] 24)=w9
 have X:Below y.heap.size y w9:=by rw[<- Y];exact ag _ _
 have FB:w9.heap.size=y.heap.size+1:=by rw[<- Y];simp
 have hX9:aj w9 y.heap.size 24 #[.int .i64 k8,.string t8,.int .i64 a8,.int .i64 z8,.slice A8 n8 c8]:=by rw[<- Y];exact aj.new y _ _
 have nE:=aC.keeps (bZ.of_below X) _ _ sM;have h9:=h8.below X;have eU:=eF.below X eF.lt;have P9:=P8.trans (PM.of_below X);clear Y;have hU9:=aC.keeps (bZ.of_below X) _ _ hU8;have Y:=aC.keeps (bZ.of_below X) _ _ oz;have sj:=kH (zi hU9 Y nE (by have:=eU.lt;omega));generalize GQ:w9.alloc (.cells #[.int .i64 k4,.string t4,.int .i64 a4,.int .i64 z4,.slice A4 n4 c4,.int .i64 k6,.string t6,.int .i64 a6,.int .i64 z6,.slice A6 n6 c6,.int .i64 k8,.string t8,.int .i64 a8,.int .i64 z8,.slice A8 n8 c8] 24)=aV at sj⊢
 have jg:Below w9.heap.size w9 aV:=by rw[<- GQ];exact ag _ _
 have H:=h9.below jg;have dN:=eU.below jg eU.lt;have jV:=P9.trans (PM.of_below jg);obtain⟨B,gy⟩:∃S,S=v8:=⟨_,rfl⟩
 rw[<- gy]at H jV gQ;have jc:=gQ;rw[<- FB];clear gy GQ FB r0 r1 r2 r3 r4 s0 s1 s2 s3 s4 hX9;refine(dV E t B _ H v.st.k 5 (cK E.bs E.l (aB E.l v.st)) (w.heap.size+1) (some ⟨w9.heap.size,0,none⟩) 3 3 [T,o6,U] sj.out).mono ?_;rintro e jB ⟨rfl,il,oC⟩;have h11:=H.below il;have jh:=dN.below il dN.lt;obtain⟨⟨r0,r1,r2,r3,r4⟩,g0,g1,g2,g3,g4⟩:=jh.five;go_wp2_with fail
 have aO:=kH (bJ (v:=v) h11 (jV.trans (PM.of_below il)) rfl jh hgl oC);clear oC;refine bodyPost_ret (v:=.agg #[.int .i64 5,.string (bf (cK E.bs E.l (aB E.l v.st))),.int .i64 (bP E.l B.st v.st.k [T,o6,U]),.int .i64 (B.st.last:Int),.slice (some ⟨w9.heap.size,0,none⟩) 3 3]) (by simp[results,Tryz.results68,go_sem,r0,r1,r2,r3,r4]) rfl ?_;exact Eq.mp (congrArg (fun r=>bD E w v r _ _) (show(aI E.l B.st v.st.k 5 (cK E.bs E.l (aB E.l v.st)) [T,o6,U],B.st)=_ by rw[aN.out,jc.out])) aO.out
theorem wO{E:PE}{w A:World}{v G:PV}{g:Nat}{L M N O P:Value}(B:PW A E G)(K:PM E w v A G)(C:aj A g 24 #[L,M,N,O,P])(R:w.heap.size<=g)(a b c d e:Value):
 PW (fw A g a b c d e) E G/\PM E w v (fw A g a b c d e) G/\aj (fw A g a b c d e) g 24 #[a,b,c,d,e]/\bZ (fun x=>x≠g) A (fw A g a b c d e):=by
 have F:aF (fun x=>x=g) A (fw A g a b c d e):=by
  unfold fw;exact(((((aF.refl (fun x=>x=g) A).setCell (.inl rfl) _).setCell (.inl rfl) _).setCell (.inl rfl) _).setCell (.inl rfl) _).setCell (.inl rfl) _
 have I:E.gp≠g:=by
  rintro rfl;have J:=B.blk;unfold aj at J C;rw[J]at C;simp at C
 refine⟨⟨B.blk.since F I,B.own.since F (fun x D H=>B.own.cB C (by decide) (by rw[D,H])),B.toks.since F (fun x D H=>B.toks.cB C (by decide) (by rw[D,H])),B.at_,B.good,B.last⟩,⟨K.since.step F (fun x D=>.inr (by omega)),K.fresh⟩,?_,fun x _ D Q=>F.block x (aae.1 Q).1 D⟩;have:=((((C.gu 0 a).gu 1 b).gu 2 c).gu 3 d).gu 4 e;unfold fw;simpa using this
end Go.Proofs.YtoepemlnlpamlaaGreat
