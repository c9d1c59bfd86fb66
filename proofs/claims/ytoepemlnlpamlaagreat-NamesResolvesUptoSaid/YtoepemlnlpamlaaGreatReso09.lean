/- The law NamesResolves holds where what it reads is of bulk at most 1048576: it returns true, and its argument reads as before. Part 9: ParH ParI ParJ ParK ParL. -/
import Derived.Test.YtoepemlnlpamlaaGreatReso08
set_option maxRecDepth 100000
set_option maxHeartbeats 4000000
namespace Go.Proofs.YtoepemlnlpamlaaGreat
open Go.RowKit
theorem OW(E:PE)(hE:E.Ok)(f:Nat)(IH:∀f',f'<=f->yl E f')(v:PV)(w:World)(kids:List ae)(q:PS)(hpw:PW w E v)(h5:bM E.l v.st≠5)(hr:aN E.bs E.l (f+1) .args v.st=some (kids,q)):Calls Tryz.prog 138 #[.pointer (some ⟨E.gp,0,none⟩)] w (Ur E w v kids q):=by
 obtain⟨i0,hi0,hz0,hz1,hz2⟩:=info_parts rP;rw[aN]at hr;have HR:=kH hr;have fD:=kH IH;have Sq:=kH h5;clear hr IH h5;go_enter Tryz.func138,Tryz.ntmps138
 go_wp2_with fail
 generalize AQ:w.alloc (.cells #[] 24)=w2
 have hb2:Below w.heap.size w w2:=by rw[<- AQ];exact ag _ _
 have hK2:bV w2 w.heap.size (.slice (some ⟨w.heap.size,0,none⟩) 0 0) 0 []:=by
  refine⟨[],?_,rfl,rfl⟩;have hn:=ai.new w 24 #[];rw[AQ]at hn;exact aL.block (n:=0) (cur:=#[]) (abE _) hn (by simp[maxLen]) rfl
 have h2:=hpw.below hb2;have P2:=PM.of_below (E:=E) (v:=v) hb2;clear AQ;refine(qJ E hE v _ h2 Sq.out).mono ?_;rintro e w3 ⟨rfl,h3,eu⟩;have P3:=P2.trans eu;obtain⟨v3,hv3⟩:∃vv:PV,(⟨ay E.l v.st,v.lv⟩:PV)=vv:=⟨_,rfl⟩
 rw[hv3]at h3 P3 eu;have fI:Hid (v3.st=ay E.l v.st):=kH (by rw[<- hv3]);have gM:=kH (hK2.keeps (eu.dR h2));clear hv3 eu hK2;have his:=fun x w' (h:PW w' E v3)=>yI E hE v3 x w' h
 obtain⟨b1,hb1⟩:∃x,bE E.bs E.l v3.st [41]=x:=⟨_,rfl⟩
 have HIS:=kH his;have HB1:=kH hb1;clear his hb1;go_wp2_with fail
 refine(HIS.out [41] _ h3).mono ?_;rintro e w4 ⟨rfl,hb4⟩;rw[HB1.out];have h4:=h3.below hb4;have P4:=P3.trans (PM.of_below hb4);have MB:=kH (gM.out.keeps (bW.of_below hb4));clear gM
 obtain⟨q1,hq1,hx1⟩:∃q1,q=aI E.bs E.l q1 [41]/\(if bE E.bs E.l v3.st [41] then kids=[]/\q1=v3.st else ∃x p,aN E.bs E.l f (.expr 1) v3.st=some ([x],p)/\aN E.bs E.l f (.qC [x]) p=some (kids,q1)):=by
  have:=HR.out;rw[<- fI.out,HB1.out]at this;rw[HB1.out];cases b1
  ·rw[if_neg (by simp)]at this
   obtain⟨x,p,h1,h2⟩:=eT this;obtain⟨ks,p2,h3,h4⟩:=vS h2;simp at h4;exact⟨p2,h4.2.symm,by rw[if_neg (by simp)];exact⟨x,p,h1,by rw[h3,h4.1]⟩⟩
  ·rw[if_pos rfl]at this
   injection this with this
   injection this with e1 e2
   exact⟨v3.st,e2.symm,by rw[if_pos rfl];exact⟨e1.symm,rfl⟩⟩
 have iC:=kH hq1;have HX1:=kH hx1;clear hq1 hx1 HR;go_upto_if 9 with fail
 go_cut [3] (fun s3 wx=> ∃A n c vx,s3= .slice A n c/\bV wx w.heap.size (.slice A n c) n kids/\vx.st=q1/\PW wx E vx/\PM E w v wx vx)
 case first=>
  cases b1
  ·have hx:=HX1.out
   rw[HB1.out,if_neg (by simp)]at hx;obtain⟨x5,p5,hx5,hxl⟩:=hx;have hcall:=(fD.out f (abE _)).expr 1 v3 w4 x5 p5 h4 (by omega) (by omega) hx5;have jo:=kH hcall;have Us:=kH hxl;have hpr:=BB hE.ends hE.empty hx5 (by rw[hE.len];exact h4.at_) ⟨by omega,by omega⟩;have hle:=hpr.1.1;clear hcall hxl hx5 hpr HX1;go_wp2_with fail
   refine jo.out.mono ?_;rintro e w5 ⟨k5,t5,a5,z5,A5,n5,c5,rfl,jF,v5,hv5,h5,iA⟩;have HV5:=kH hv5;have P5:=P4.trans iA;clear hv5;obtain⟨U0,LJ,Ro,Lt⟩:=MB.out.keeps (iA.dR h4);have Rp:aB w5 (fun g=>w.heap.size<=g/\some g≠(Value.slice (some ⟨w.heap.size,0,none⟩) 0 0).ownBlock) _ _:=aB.weak (fun g _ hg=>⟨abF P4.since.size hg,fun e1=>by obtain⟨_,hO4,_,_⟩:=MB.out;have:=(hO4.lt g e1.symm).2;omega⟩) _ _ jF;have hrz6:=P5.since.size;have Dq:=kH LJ;have abn:=kH Ro;have abo:=kH Rp;have Hn6:=kH Lt;clear LJ Ro Rp Lt jF;go_wp2_with (at_builtin;go_must (refine dm _ rfl (.tmp 10) (.tmp 13) _ rfl (w.heap.size) 24 i0 _ 5 64 Tryz.underlying22 hi0 hz0 hz1 hz2 rfl (.slice (some ⟨w.heap.size,0,none⟩) 0 0) 0 (List.flatten U0) rfl (Dq.out.alloc _) ⟨w5.heap.size,0,none⟩ 1 1 [.int .i64 k5,.string t5,.int .i64 a5,.int .i64 z5,.slice A5 n5 c5] rfl rfl (jd _ _ _ _ _ _ _ (by go_simp) (by go_simp) (by go_simp) (by go_simp) (by go_simp)) (by simp[Value.oneCell']) (by simp only[maxLen];omega) (by omega) (by simp;omega) ?_);intro vn w6 hown hgrow hat;obtain⟨A6,c6,nC,-,-⟩:=hown.shape;subst nC;have Xj:=kH hown;have GA:=kH hgrow;have abA:=kH hat;clear hown hgrow hat)
   have Bn:=kH (bV.pushed abn.out Hn6.out abo.out Xj.out GA.out abA.out);obtain⟨h6,P6,Lv⟩:=kM h5 P5 Dq.out (abE _) GA.out;clear Lv;go_loopg [3] f (fun gk s3 wr=> ∃A n c vx ts,s3= .slice A n c/\bV wr w.heap.size (.slice A n c) n ts/\gk<=f/\aN E.bs E.l gk (.qC ts) vx.st=some (kids,q1)/\n<=vx.st.k+1/\PW wr E vx/\PM E w v wr vx)
   case atStart=>exact⟨A6,1,c6,v5,[x5],rfl,Bn.out,abE _,by rw[HV5.out];exact Us.out,by omega,h6,P6⟩
   case round=>
    obtain⟨A7,n7,c7,v7,pq,rfl,BN,hgf,hx7,xI,h7,P7⟩:=hrel
    cases gk with
    | zero=>simp[aN]at hx7
    | succ gk=>
     rw[aN]at hx7;have rF:=kH hx7;have Mx:=kH BN;have JR:=h7.at_;have zJ:=hE.most;clear hx7 BN;obtain⟨b7,dB⟩:∃x,bE E.bs E.l v7.st [44]=x:=⟨_,rfl⟩
     have gN:=kH dB;clear dB;go_wp2_with fail
     refine(fV E hE v7 [44] _ h7).mono ?_;rintro e w8 ⟨rfl,v8,dV,h8,dS⟩;rw[gN.out];have gL:=kH dV;have P8:=P7.trans dS;have ng:=kH (Mx.out.keeps (dS.dR h7));clear dV dS;cases b7
     ·have hst:v8.st=v7.st:=by
       rw[gL.out];unfold bI;rw[gN.out,if_neg (by simp)]
      have hkk:pq=kids/\v7.st=q1:=by
       have:=rF.out;rw[gN.out,if_neg (by simp)]at this;simpa using this
      obtain⟨rfl,yL⟩:=hkk;have Gt:=kH (hst.trans yL);clear hst yL;go_wp2_with fail
      go_meet
      exact⟨_,_,_,v8,rfl,ng.out,Gt.out,h8,P8⟩
     ·have hst:v8.st=ay E.l v7.st:=by
       rw[gL.out];unfold bI;rw[gN.out,if_pos rfl]
      obtain⟨x9,q9,FL,hnx⟩:∃x9 q9,aN E.bs E.l gk (.expr 1) v8.st=some ([x9],q9)/\aN E.bs E.l gk (.qC (pq++[x9])) q9=some (kids,q1):=by
       have:=rF.out;rw[gN.out,if_pos rfl,<- hst]at this;exact eT this
      have AJ:v8.st.k=v7.st.k+1:=by rw[hst];rfl
      have hpr:=BB hE.ends hE.empty FL (by rw[hE.len];exact h8.at_) ⟨by omega,by omega⟩;have hlt:=hpr.1.1;have hcall:=(fD.out gk (by omega)).expr 1 v8 w8 x9 q9 h8 (by omega) (by omega) FL;have jo:=kH hcall;have bF:=kH hnx;have Kn:=kH AJ;have QX:n7<=5001:=by omega
      clear hst hpr FL hcall hnx AJ;go_wp2_with fail
      refine jo.out.mono ?_;rintro e w9 ⟨k9,t9,a9,z9,A9,n9,c9,rfl,nX,v9,gV,h9,fU⟩;have jZ:=kH gV;have P9:=P8.trans fU;clear gV;obtain⟨zZ,oC,wY,pJ⟩:=ng.out.keeps (fU.dR h8);have wZ:aB w9 (fun g=>w.heap.size<=g/\some g≠(Value.slice A7 n7 c7).ownBlock) _ _:=aB.weak (fun g _ hg=>⟨abF P8.since.size hg,fun e1=>by obtain⟨_,hO4,_,_⟩:=ng.out;have:=(hO4.lt g e1.symm).2;omega⟩) _ _ nX;have Wq:=P9.since.size;have Bi:=kH oC;have Ex:=kH wY;have Ey:=kH wZ;have Kh:=kH pJ;clear oC wY wZ pJ nX;go_wp2_with (at_builtin;go_must (refine dm _ rfl (.tmp 17) (.tmp 20) _ rfl (w.heap.size) 24 i0 _ 5 64 Tryz.underlying22 hi0 hz0 hz1 hz2 rfl (.slice A7 n7 c7) n7 (List.flatten zZ) rfl (Bi.out.alloc _) ⟨w9.heap.size,0,none⟩ 1 1 [.int .i64 k9,.string t9,.int .i64 a9,.int .i64 z9,.slice A9 n9 c9] rfl rfl (jd _ _ _ _ _ _ _ (by go_simp) (by go_simp) (by go_simp) (by go_simp) (by go_simp)) (by simp[Value.oneCell']) (by simp only[maxLen];omega) (by omega) (by simp;omega) ?_);intro vn bA hown hgrow hat;obtain⟨oL,c10,nC,-,-⟩:=hown.shape;subst nC;have Bh:=kH hown;have rJ:=kH hgrow;have EC:=kH hat;clear hown hgrow hat)
      have rG:=kH (bV.pushed Ex.out Kh.out Ey.out Bh.out rJ.out EC.out);obtain⟨h10,jG,tC⟩:=kM h9 P9 Bi.out (abE _) rJ.out;clear tC;go_roundg gk
      case measure=>omega
      case rel=>
       refine⟨oL,n7+1,c10,v9,pq++[x9],rfl,rG.out,by omega,by rw[jZ.out];exact bF.out,?_,h10,jG⟩;rw[jZ.out];have:=Kn.out;show n7+1<=q9.k+1;omega
  ·have hx:=HX1.out
   rw[HB1.out,if_pos rfl]at hx;obtain⟨rfl,hq⟩:=hx;have HQ:=kH hq.symm;clear hq;go_wp2_with fail
   go_meet
   exact⟨_,_,_,v3,rfl,MB.out,HQ.out,h4,P4⟩
 case rest=>
  obtain⟨Ak,nk,ck,vx,rfl,hK,Iu,hx,hmx⟩:=hcut;have HKx:=kH hK;have Dp:=kH Iu;clear hK Iu;go_wp2_with fail
  refine(j6 E hE vx [41] _ hx).mono ?_;rintro e mJ ⟨rfl,v12,kI,h12,iH⟩;have hst:v12.st=q:=by rw[kI,Dp.out,iC.out]
  have mO:=hmx.trans iH;have oV:=kH (HKx.out.keeps (iH.dR hx));have HST:=kH hst;clear kI iH hst;go_wp2_with fail
  go_ret
  exact⟨Ak,nk,ck,rfl,oV.out,v12,HST.out,h12,mO⟩
theorem Y3(E:PE)(hE:E.Ok)(f:Nat)(IH:∀f',f'<=f->yl E f')(v:PV)(w:World)(t:ae)(q:PS)(hpw:PW w E v)(hr:aN E.bs E.l (f+1) (.expr 3) v.st=some ([t],q)):Calls Tryz.prog 134 #[.pointer (some ⟨E.gp,0,none⟩),.int .i64 3] w (bB E w v (t,q)):=by
 rw[aN,if_pos rfl]at hr;have HR:=kH hr;have fD:=kH IH;clear hr IH;have hgl:=hpw.blk.lt;have hk2:w.cell? ⟨E.gp,2,none⟩=some (.int .i64 (v.st.k:Int)):=hpw.blk.cell 2;go_enter Tryz.func134,Tryz.ntmps134
 go_wp2_with fail
 generalize hW1:w.alloc (.cells #[.int .i64 0,.string ⟨#[]⟩,.int .i64 0,.int .i64 0,.slice none 0 0] 24)=W1
 have hb1:Below w.heap.size w W1:=by rw[<- hW1];exact ag _ _
 have gJ:ai W1 w.heap.size 24 #[.int .i64 0,.string ⟨#[]⟩,.int .i64 0,.int .i64 0,.slice none 0 0]:=by rw[<- hW1];exact ai.new w _ _
 have hs1:W1.heap.size=w.heap.size+1:=by rw[<- hW1];simp
 have hm1:=PM.of_below (E:=E) (v:=v) hb1;have h1:=hpw.below hb1;have P1:=hm1;have o5:=kH hs1;have jv:=kH hm1;clear hW1 hs1 hm1 hb1;obtain⟨b0,hb0⟩:∃x,bE E.bs E.l v.st [110,111,116]=x:=⟨_,rfl⟩
 have HB0:=kH hb0;clear hb0 hk2;refine(fV E hE v [110,111,116] _ h1).mono ?_;rintro e w2 ⟨rfl,v2,hv2,h2,hm2⟩;rw[HB0.out];have gF:=kH hv2;have hR2:=hm2.blk h1 gJ;have P2:=P1.trans hm2;clear hv2 hm2;cases b0
 ·have hst:v2.st=v.st:=by
   rw[gF.out];unfold bI;rw[HB0.out,if_neg (by simp)]
  have hx:aN E.bs E.l f (.expr 4) v2.st=some ([t],q):=by
   have:=HR.out;rw[HB0.out,if_neg (by simp)]at this;rw[hst];exact this
  have hcall:=(fD.out f (abE _)).expr 4 v2 w2 t q h2 (by omega) (by omega) hx;have jo:=kH hcall;clear hst hx hcall;go_wp2_with fail
  refine(jo.out).mono ?_;rintro e w3 ⟨k3,t3,a3,z3,A3,n3,c3,rfl,jX,v3,hv3,h3,eu⟩;have fI:=kH hv3;have bT:=eu.blk h2 hR2;have P3:=P2.trans eu;replace jX:=aB.weak (Q:=fun g=>w.heap.size+1<=g) (fun g _ hg=>abF hR2.lt hg) _ _ jX
  clear hv3;have aM:=trivial;obtain⟨⟨r0,r1,r2,r3,r4⟩,g0,g1,g2,g3,g4⟩:=bT.five;go_wp2_with fail
  have aO:=kH (bJ (v:=v) h3 P3 rfl bT hgl jX);clear jX;rw[fI.out]at aO;refine bodyPost_ret (v:=.agg #[.int .i64 k3,.string t3,.int .i64 a3,.int .i64 z3,.slice A3 n3 c3]) (by simp[results,Tryz.results134,go_sem,r0,r1,r2,r3,r4]) rfl ?_;try rw[aM.out]
  exact aO.out
 ·have hst:v2.st=ay E.l v.st:=by
   rw[gF.out];unfold bI;rw[HB0.out,if_pos rfl]
  obtain⟨x3,q3,hx,hrq⟩:∃x3 q3,aN E.bs E.l f (.expr 3) v2.st=some ([x3],q3)/\(t,q)=(aH E.l q3 v.st.k 28 [110,111,116] [x3],q3):=by
   have:=HR.out;rw[HB0.out,if_pos rfl]at this;obtain⟨x,p,h1,h2⟩:=eT this;simp at h2;exact⟨x,p,by rw[hst];exact h1,by rw[<- h2.1,<- h2.2]⟩
  have hcall:=(fD.out f (abE _)).expr 3 v2 w2 x3 q3 h2 (by omega) (by omega) hx;have jo:=kH hcall;have aM:=kH hrq;clear hst hx hcall hrq;go_wp2_with fail
  refine(jo.out).mono ?_;rintro e w3 ⟨k3,t3,a3,z3,A3,n3,c3,rfl,jX,v3,hv3,h3,eu⟩;have fI:=kH hv3;have bT:=eu.blk h2 hR2;have P3:=P2.trans eu;replace jX:=aB.weak (Q:=fun g=>w.heap.size+1<=g) (fun g _ hg=>abF hR2.lt hg) _ _ jX
  clear hv3;go_wp2_with fail
  generalize lW:w3.alloc (.cells #[.int .i64 k3,.string t3,.int .i64 a3,.int .i64 z3,.slice A3 n3 c3] 24)=w4
  have hb4:Below w3.heap.size w3 w4:=by rw[<- lW];exact ag _ _
  have hs4:w4.heap.size=w3.heap.size+1:=by rw[<- lW];simp
  have N7:ai w4 w3.heap.size 24 #[.int .i64 k3,.string t3,.int .i64 a3,.int .i64 z3,.slice A3 n3 c3]:=by rw[<- lW];exact ai.new w3 _ _
  have kE:=aB.keeps (bW.of_below hb4) _ _ jX;have h4:=h3.below hb4;have dX:=bT.below hb4 bT.lt;have P4:=P3.trans (PM.of_below hb4);clear lW;have xL:=kH (jP kE (by have:=dX.lt;omega));generalize jk:w4.alloc (.cells #[.int .i64 k3,.string t3,.int .i64 a3,.int .i64 z3,.slice A3 n3 c3] 24)=w5 at xL⊢
  have hb5:Below w4.heap.size w4 w5:=by rw[<- jk];exact ag _ _
  have h5:=h4.below hb5;have fw:=dX.below hb5 dX.lt;have P5:=P4.trans (PM.of_below hb5);clear jk;obtain⟨v5,hv5⟩:∃vv,vv=v3:=⟨_,rfl⟩
  rw[<- hv5]at h5 P5 fI;have HV5:=fI;rw[<- hs4];clear hv5 N7 hs4;refine(dP E hE v5 _ h5 v.st.k 28 [110,111,116] (w.heap.size+1) (some ⟨w4.heap.size,0,none⟩) 1 1 [x3] xL.out).mono ?_;rintro e w6 ⟨rfl,hb6,qN⟩;have h6:=h5.below hb6;have gD:=fw.below hb6 fw.lt;obtain⟨⟨r0,r1,r2,r3,r4⟩,g0,g1,g2,g3,g4⟩:=gD.five;go_wp2_with fail
  have aO:=kH (bJ (v:=v) h6 (P5.trans (PM.of_below hb6)) rfl gD hgl qN);clear qN;refine bodyPost_ret (v:=.agg #[.int .i64 28,.string (aX [110,111,116]),.int .i64 (bO E.l v5.st v.st.k [x3]),.int .i64 (v5.st.last:Int),.slice (some ⟨w4.heap.size,0,none⟩) 1 1]) (by simp[results,Tryz.results134,go_sem,r0,r1,r2,r3,r4]) rfl ?_;exact Eq.mp (congrArg (fun r=>bB E w v r _ _) (show(aH E.l v5.st v.st.k 28 [110,111,116] [x3],v5.st)=_ by rw[aM.out,HV5.out])) aO.out
theorem Y2(E:PE)(hE:E.Ok)(f:Nat)(IH:∀f',f'<=f->yl E f')(v:PV)(w:World)(t:ae)(q:PS)(hpw:PW w E v)(hr:aN E.bs E.l (f+1) (.expr 7) v.st=some ([t],q)):Calls Tryz.prog 134 #[.pointer (some ⟨E.gp,0,none⟩),.int .i64 7] w (bB E w v (t,q)):=by
 rw[aN,if_neg (by decide),if_pos rfl]at hr;have HR:=kH hr;have fD:=kH IH;clear hr IH;have hgl:=hpw.blk.lt;have hk2:w.cell? ⟨E.gp,2,none⟩=some (.int .i64 (v.st.k:Int)):=hpw.blk.cell 2;go_enter Tryz.func134,Tryz.ntmps134
 go_wp2_with fail
 generalize hW1:w.alloc (.cells #[.int .i64 0,.string ⟨#[]⟩,.int .i64 0,.int .i64 0,.slice none 0 0] 24)=W1
 have hb1:Below w.heap.size w W1:=by rw[<- hW1];exact ag _ _
 have gJ:ai W1 w.heap.size 24 #[.int .i64 0,.string ⟨#[]⟩,.int .i64 0,.int .i64 0,.slice none 0 0]:=by rw[<- hW1];exact ai.new w _ _
 have hs1:W1.heap.size=w.heap.size+1:=by rw[<- hW1];simp
 have hm1:=PM.of_below (E:=E) (v:=v) hb1;have h1:=hpw.below hb1;have P1:=hm1;have o5:=kH hs1;have jv:=kH hm1;clear hW1 hs1 hm1 hb1;obtain⟨b0,hb0⟩:∃x,bE E.bs E.l v.st [45]=x:=⟨_,rfl⟩
 have HB0:=kH hb0;clear hb0 hk2;refine(fV E hE v [45] _ h1).mono ?_;rintro e w2 ⟨rfl,v2,hv2,h2,hm2⟩;rw[HB0.out];have gF:=kH hv2;have hR2:=hm2.blk h1 gJ;have P2:=P1.trans hm2;clear hv2 hm2;cases b0
 ·have hst:v2.st=v.st:=by
   rw[gF.out];unfold bI;rw[HB0.out,if_neg (by simp)]
  have hx:aN E.bs E.l f .operand v2.st=some ([t],q):=by
   have:=HR.out;rw[HB0.out,if_neg (by simp)]at this;rw[hst];exact this
  have hcall:=(fD.out f (abE _)).operand v2 w2 t q h2 hx;have jo:=kH hcall;clear hst hx hcall;go_wp2_with fail
  refine(jo.out).mono ?_;rintro e w3 ⟨k3,t3,a3,z3,A3,n3,c3,rfl,jX,v3,hv3,h3,eu⟩;have fI:=kH hv3;have bT:=eu.blk h2 hR2;have P3:=P2.trans eu;replace jX:=aB.weak (Q:=fun g=>w.heap.size+1<=g) (fun g _ hg=>abF hR2.lt hg) _ _ jX
  clear hv3;have aM:=trivial;obtain⟨⟨r0,r1,r2,r3,r4⟩,g0,g1,g2,g3,g4⟩:=bT.five;go_wp2_with fail
  have aO:=kH (bJ (v:=v) h3 P3 rfl bT hgl jX);clear jX;rw[fI.out]at aO;refine bodyPost_ret (v:=.agg #[.int .i64 k3,.string t3,.int .i64 a3,.int .i64 z3,.slice A3 n3 c3]) (by simp[results,Tryz.results134,go_sem,r0,r1,r2,r3,r4]) rfl ?_;try rw[aM.out]
  exact aO.out
 ·have hst:v2.st=ay E.l v.st:=by
   rw[gF.out];unfold bI;rw[HB0.out,if_pos rfl]
  obtain⟨x3,q3,hx,hrq⟩:∃x3 q3,aN E.bs E.l f (.expr 7) v2.st=some ([x3],q3)/\(t,q)=(aH E.l q3 v.st.k 28 [45] [x3],q3):=by
   have:=HR.out;rw[HB0.out,if_pos rfl]at this;obtain⟨x,p,h1,h2⟩:=eT this;simp at h2;exact⟨x,p,by rw[hst];exact h1,by rw[<- h2.1,<- h2.2]⟩
  have hcall:=(fD.out f (abE _)).expr 7 v2 w2 x3 q3 h2 (by omega) (by omega) hx;have jo:=kH hcall;have aM:=kH hrq;clear hst hx hcall hrq;go_wp2_with fail
  refine(jo.out).mono ?_;rintro e w3 ⟨k3,t3,a3,z3,A3,n3,c3,rfl,jX,v3,hv3,h3,eu⟩;have fI:=kH hv3;have bT:=eu.blk h2 hR2;have P3:=P2.trans eu;replace jX:=aB.weak (Q:=fun g=>w.heap.size+1<=g) (fun g _ hg=>abF hR2.lt hg) _ _ jX
  clear hv3;go_wp2_with fail
  generalize lW:w3.alloc (.cells #[.int .i64 k3,.string t3,.int .i64 a3,.int .i64 z3,.slice A3 n3 c3] 24)=w4
  have hb4:Below w3.heap.size w3 w4:=by rw[<- lW];exact ag _ _
  have hs4:w4.heap.size=w3.heap.size+1:=by rw[<- lW];simp
  have N7:ai w4 w3.heap.size 24 #[.int .i64 k3,.string t3,.int .i64 a3,.int .i64 z3,.slice A3 n3 c3]:=by rw[<- lW];exact ai.new w3 _ _
  have kE:=aB.keeps (bW.of_below hb4) _ _ jX;have h4:=h3.below hb4;have dX:=bT.below hb4 bT.lt;have P4:=P3.trans (PM.of_below hb4);clear lW;have xL:=kH (jP kE (by have:=dX.lt;omega));generalize jk:w4.alloc (.cells #[.int .i64 k3,.string t3,.int .i64 a3,.int .i64 z3,.slice A3 n3 c3] 24)=w5 at xL⊢
  have hb5:Below w4.heap.size w4 w5:=by rw[<- jk];exact ag _ _
  have h5:=h4.below hb5;have fw:=dX.below hb5 dX.lt;have P5:=P4.trans (PM.of_below hb5);clear jk;obtain⟨v5,hv5⟩:∃vv,vv=v3:=⟨_,rfl⟩
  rw[<- hv5]at h5 P5 fI;have HV5:=fI;rw[<- hs4];clear hv5 N7 hs4;refine(dP E hE v5 _ h5 v.st.k 28 [45] (w.heap.size+1) (some ⟨w4.heap.size,0,none⟩) 1 1 [x3] xL.out).mono ?_;rintro e w6 ⟨rfl,hb6,qN⟩;have h6:=h5.below hb6;have gD:=fw.below hb6 fw.lt;obtain⟨⟨r0,r1,r2,r3,r4⟩,g0,g1,g2,g3,g4⟩:=gD.five;go_wp2_with fail
  have aO:=kH (bJ (v:=v) h6 (P5.trans (PM.of_below hb6)) rfl gD hgl qN);clear qN;refine bodyPost_ret (v:=.agg #[.int .i64 28,.string (aX [45]),.int .i64 (bO E.l v5.st v.st.k [x3]),.int .i64 (v5.st.last:Int),.slice (some ⟨w4.heap.size,0,none⟩) 1 1]) (by simp[results,Tryz.results134,go_sem,r0,r1,r2,r3,r4]) rfl ?_;exact Eq.mp (congrArg (fun r=>bB E w v r _ _) (show(aH E.l v5.st v.st.k 28 [45] [x3],v5.st)=_ by rw[aM.out,HV5.out])) aO.out
theorem yH{w:World}{lo:Nat}{t1 t2:ae}{a b c d e a' b' c' d' e':Value}(h:aB w (fun g=>lo<=g) t1 [a,b,c,d,e])(h':aB w (fun g=>lo<=g) t2 [a',b',c',d',e'])(hlo:lo<=w.heap.size):
 bV (w.alloc (.cells #[a,b,c,d,e,a',b',c',d',e'] 24)) lo (.slice (some ⟨w.heap.size,0,none⟩) 2 2) 2 [t1,t2]:=
 JH (ts:=[t1,t2]) (vals:=[[a,b,c,d,e],[a',b',c',d',e']]) ⟨_,_,rfl,h,_,_,rfl,h',rfl⟩ hlo (by simp)
theorem XV(E:PE)(hE:E.Ok)(f:Nat)(IH:∀f',f'<=f->yl E f')(v:PV)(w:World)(t:ae)(q:PS)(hpw:PW w E v)(hr:aN E.bs E.l (f+1) .place v.st=some ([t],q)):Calls Tryz.prog 139 #[.pointer (some ⟨E.gp,0,none⟩)] w (bB E w v (t,q)):=by
 rw[aN]at hr;have HR:=kH hr;have fD:=kH IH;clear hr IH;have hgl:=hpw.blk.lt;have hk2:w.cell? ⟨E.gp,2,none⟩=some (.int .i64 (v.st.k:Int)):=hpw.blk.cell 2;go_enter Tryz.func139,Tryz.ntmps139
 go_wp2_with fail
 generalize hW1:w.alloc (.cells #[.int .i64 0,.string ⟨#[]⟩,.int .i64 0,.int .i64 0,.slice none 0 0] 24)=W1
 have hb1:Below w.heap.size w W1:=by rw[<- hW1];exact ag _ _
 have gJ:ai W1 w.heap.size 24 #[.int .i64 0,.string ⟨#[]⟩,.int .i64 0,.int .i64 0,.slice none 0 0]:=by rw[<- hW1];exact ai.new w _ _
 have hs1:W1.heap.size=w.heap.size+1:=by rw[<- hW1];simp
 have hm1:=PM.of_below (E:=E) (v:=v) hb1;have h1:=hpw.below hb1;have P1:=hm1;have o5:=kH hs1;have jv:=kH hm1;clear hW1 hs1 hm1 hb1;clear hk2;refine(Fb E hE v _ h1).mono ?_;rintro e w2 ⟨k2,t2,a2,z2,A2,n2,c2,rfl,p9,v2,hv2,h2,hm2⟩;have gF:=kH hv2;have hR2:=hm2.blk h1 gJ;have P2:=P1.trans hm2;replace p9:=aB.weak (Q:=fun g=>w.heap.size+1<=g) (fun g _ hg=>abF gJ.lt hg) _ _ p9
 clear hv2;obtain⟨x2,hx2⟩:∃x,(ny E.bs E.l v.st).1=x:=⟨_,rfl⟩
 rw[hx2]at p9;have yU:=kH hx2;clear hx2;go_wp2_with fail
 generalize hW3:w2.alloc (.cells #[.int .i64 k2,.string t2,.int .i64 a2,.int .i64 z2,.slice A2 n2 c2] 24)=w3
 have hb3:Below w2.heap.size w2 w3:=by rw[<- hW3];exact ag _ _
 have hs3:w3.heap.size=w2.heap.size+1:=by rw[<- hW3];simp
 have Rk:ai w3 w2.heap.size 24 #[.int .i64 k2,.string t2,.int .i64 a2,.int .i64 z2,.slice A2 n2 c2]:=by rw[<- hW3];exact ai.new w2 _ _
 have jX:=aB.keeps (bW.of_below hb3) _ _ p9;have h3:=h2.below hb3;have bT:=hR2.below hb3 hR2.lt;have P3:=P2.trans (PM.of_below hb3);clear hW3;obtain⟨v3,hv3⟩:∃vv,vv=v2:=⟨_,rfl⟩
 rw[<- hv3]at h3 P3 gF;clear hv3;obtain⟨b0,hb0⟩:∃x,bE E.bs E.l v3.st [91]=x:=⟨_,rfl⟩
 have HB0:=kH hb0;clear hb0;refine(fV E hE v3 [91] _ h3).mono ?_;rintro e w4 ⟨rfl,v4,hv4,h4,iB⟩;rw[HB0.out];have ja:=kH hv4;have dX:=iB.blk h3 bT;have P4:=P3.trans iB;have N7:=iB.blk h3 Rk;have kE:=aB.keeps (iB.dR h3) _ _ jX;clear hv4 iB;cases b0
 ·have hst:v4.st=v3.st:=by
   rw[ja.out];unfold bI;rw[HB0.out,if_neg (by simp)]
  have HST:=kH hst;obtain⟨b1,hb1⟩:∃x,bE E.bs E.l v4.st [46]=x:=⟨_,rfl⟩
  have HB1:=kH hb1;clear hst hb1 Rk hs3;go_wp2_with fail
  refine(fV E hE v4 [46] _ h4).mono ?_;rintro e w5 ⟨rfl,v5,hv5,h5,iA⟩;rw[HB1.out];have HV5:=kH hv5;have fw:=iA.blk h4 dX;have P5:=P4.trans iA;have AP:=iA.blk h4 N7;have jF:=aB.keeps (iA.dR h4) _ _ kE;clear hv5 iA N7;cases b1
  ·have hst:v5.st=v4.st:=by
    rw[HV5.out];unfold bI;rw[HB1.out,if_neg (by simp)]
   have hrq:(t,q)=(x2,v5.st):=by
    have:=HR.out;rw[<- gF.out,HB0.out,if_neg (by simp),<- HST.out,HB1.out,if_neg (by simp),yU.out]at this;simp at this;rw[hst,<- this.1,<- this.2]
   have aM:=kH hrq;obtain⟨⟨s0,s1,s2,s3,s4⟩,-⟩:=AP.five;obtain⟨⟨r0,r1,r2,r3,r4⟩,g0,g1,g2,g3,g4⟩:=fw.five;clear hst hrq;go_wp2_with fail
   have aO:=kH (bJ (v:=v) h5 P5 rfl fw hgl jF);clear jF;refine bodyPost_ret (v:=.agg #[.int .i64 k2,.string t2,.int .i64 a2,.int .i64 z2,.slice A2 n2 c2]) (by simp[results,Tryz.results139,go_sem,r0,r1,r2,r3,r4]) rfl ?_;rw[aM.out];exact aO.out
  ·have hst:v5.st=ay E.l v4.st:=by
    rw[HV5.out];unfold bI;rw[HB1.out,if_pos rfl]
   have hrq:(t,q)=(aH E.l (dI E.l v5.st) v.st.k 22 (cK E.bs E.l v5.st) [x2],dI E.l v5.st):=by
    have:=HR.out;rw[<- gF.out,HB0.out,if_neg (by simp),<- HST.out,HB1.out,if_pos rfl,yU.out]at this;simp at this;rw[hst,<- this.1,<- this.2]
   have aM:=kH hrq;clear hst hrq;go_wp2_with fail
   refine(tV E hE v5 _ h5).mono ?_;rintro e w7 ⟨rfl,v7,hv7,h7,iV⟩;have lh:=kH hv7;have eZ:=iV.blk h5 fw;have P7:=P5.trans iV;have NZ:=iV.blk h5 AP;have kY:=aB.keeps (iV.dR h5) _ _ jF;obtain⟨⟨s0,s1,s2,s3,s4⟩,-⟩:=NZ.five;clear hv7 iV NZ AP;go_wp2_with fail
   have ng:=kH (jP kY (by have:=eZ.lt;omega));generalize nQ:w7.alloc (.cells #[.int .i64 k2,.string t2,.int .i64 a2,.int .i64 z2,.slice A2 n2 c2] 24)=w8 at ng⊢
   have dW:Below w7.heap.size w7 w8:=by rw[<- nQ];exact ag _ _
   have h8:=h7.below dW;have eB:=eZ.below dW eZ.lt;have P8:=P7.trans (PM.of_below dW);clear nQ;obtain⟨v8,dV⟩:∃vv,vv=v7:=⟨_,rfl⟩
   rw[<- dV]at h8 P8 lh;have gL:=lh;clear dV s0 s1 s2 s3 s4;refine(dP E hE v8 _ h8 v.st.k 22 (cK E.bs E.l v5.st) (w.heap.size+1) (some ⟨w7.heap.size,0,none⟩) 1 1 [x2] ng.out).mono ?_;rintro e w9 ⟨rfl,fA,nX⟩;have h9:=h8.below fA;have eY:=eB.below fA eB.lt;obtain⟨⟨r0,r1,r2,r3,r4⟩,g0,g1,g2,g3,g4⟩:=eY.five;go_wp2_with fail
   have aO:=kH (bJ (v:=v) h9 (P8.trans (PM.of_below fA)) rfl eY hgl nX);clear nX;refine bodyPost_ret (v:=.agg #[.int .i64 22,.string (aX (cK E.bs E.l v5.st)),.int .i64 (bO E.l v8.st v.st.k [x2]),.int .i64 (v8.st.last:Int),.slice (some ⟨w7.heap.size,0,none⟩) 1 1]) (by simp[results,Tryz.results139,go_sem,r0,r1,r2,r3,r4]) rfl ?_;exact Eq.mp (congrArg (fun r=>bB E w v r _ _) (show(aH E.l v8.st v.st.k 22 (cK E.bs E.l v5.st) [x2],v8.st)=_ by rw[aM.out,gL.out])) aO.out
 ·have hst:v4.st=ay E.l v3.st:=by
   rw[ja.out];unfold bI;rw[HB0.out,if_pos rfl]
  obtain⟨x5,q5,hx,hrq⟩:∃x5 q5,aN E.bs E.l f (.expr 1) v4.st=some ([x5],q5)/\(t,q)=(aH E.l (aI E.bs E.l q5 [93]) v.st.k 21 [] [x2,x5],aI E.bs E.l q5 [93]):=by
   have:=HR.out;rw[<- gF.out,HB0.out,if_pos rfl,yU.out]at this;obtain⟨x,p,h1,h2⟩:=eT this;simp at h2;exact⟨x,p,by rw[hst];exact h1,by rw[<- h2.1,<- h2.2]⟩
  have hcall:=(fD.out f (abE _)).expr 1 v4 w4 x5 q5 h4 (by omega) (by omega) hx;have jo:=kH hcall;have aM:=kH hrq;clear hst hx hcall hrq Rk hs3;go_wp2_with fail
  refine(jo.out).mono ?_;rintro e w5 ⟨k5,t5,a5,z5,A5,n5,c5,rfl,jF,v5,hv5,h5,iA⟩;have HV5:=kH hv5;have fw:=iA.blk h4 dX;have P5:=P4.trans iA;replace jF:=aB.weak (Q:=fun g=>w.heap.size+1<=g) (fun g _ hg=>abF dX.lt hg) _ _ jF
  clear hv5;have AP:=iA.blk h4 N7;have hU5:=aB.keeps (iA.dR h4) _ _ kE;go_wp2_with fail
  have hX5l:=AP.lt;generalize uf:w5.alloc (.cells #[.int .i64 k5,.string t5,.int .i64 a5,.int .i64 z5,.slice A5 n5 c5] 24)=w6
  have hb6:Below w5.heap.size w5 w6:=by rw[<- uf];exact ag _ _
  have hs6:w6.heap.size=w5.heap.size+1:=by rw[<- uf];simp
  have Ud:ai w6 w5.heap.size 24 #[.int .i64 k5,.string t5,.int .i64 a5,.int .i64 z5,.slice A5 n5 c5]:=by rw[<- uf];exact ai.new w5 _ _
  have qN:=aB.keeps (bW.of_below hb6) _ _ jF;have h6:=h5.below hb6;have gD:=fw.below hb6 fw.lt;have P6:=P5.trans (PM.of_below hb6);clear uf;have hY6:=AP.below hb6 AP.lt;have hU6:=aB.keeps (bW.of_below hb6) _ _ hU5;refine(j6 E hE v5 [93] _ h6).mono ?_;rintro e w7 ⟨rfl,v7,hv7,h7,iV⟩;have lh:=kH hv7;rw[HV5.out]at lh;have eZ:=iV.blk h6 gD;have P7:=P6.trans iV;have NZ:=iV.blk h6 Ud;have YI:=iV.blk h6 hY6;have kY:=aB.keeps (iV.dR h6) _ _ qN;have hU7:=aB.keeps (iV.dR h6) _ _ hU6;obtain⟨⟨r0,r1,r2,r3,r4⟩,-⟩:=NZ.five;obtain⟨⟨s0,s1,s2,s3,s4⟩,-⟩:=YI.five;have HR7:=kH eZ;clear hv7 iV NZ YI N7 AP Ud hY6 hs6;go_wp2_with fail
  have ng:=kH (yH hU7 kY (by have:=HR7.out.lt;omega));generalize nQ:w7.alloc (.cells #[.int .i64 k2,.string t2,.int .i64 a2,.int .i64 z2,.slice A2 n2 c2,.int .i64 k5,.string t5,.int .i64 a5,.int .i64 z5,.slice A5 n5 c5] 24)=w8 at ng⊢
  have dW:Below w7.heap.size w7 w8:=by rw[<- nQ];exact ag _ _
  have h8:=h7.below dW;have eB:=HR7.out.below dW HR7.out.lt;have P8:=P7.trans (PM.of_below dW);obtain⟨v8,dV⟩:∃vv,vv=v7:=⟨_,rfl⟩
  rw[<- dV]at h8 P8 lh;have gL:=lh;clear dV nQ r0 r1 r2 r3 r4 s0 s1 s2 s3 s4;refine(dP E hE v8 _ h8 v.st.k 21 [] (w.heap.size+1) (some ⟨w7.heap.size,0,none⟩) 2 2 [x2,x5] ng.out).mono ?_;rintro e w9 ⟨rfl,fA,nX⟩;have h9:=h8.below fA;have eY:=eB.below fA eB.lt;obtain⟨⟨r0,r1,r2,r3,r4⟩,g0,g1,g2,g3,g4⟩:=eY.five;go_wp2_with fail
  have aO:=kH (bJ (v:=v) h9 (P8.trans (PM.of_below fA)) rfl eY hgl nX);clear nX;refine bodyPost_ret (v:=.agg #[.int .i64 21,.string (aX []),.int .i64 (bO E.l v8.st v.st.k [x2,x5]),.int .i64 (v8.st.last:Int),.slice (some ⟨w7.heap.size,0,none⟩) 2 2]) (by simp[results,Tryz.results139,go_sem,r0,r1,r2,r3,r4]) rfl ?_;exact Eq.mp (congrArg (fun r=>bB E w v r _ _) (show(aH E.l v8.st v.st.k 21 [] [x2,x5],v8.st)=_ by rw[aM.out,gL.out])) aO.out
theorem yG{w:World}{lo:Nat}{t1 t2 t3:ae}{a b c d e a' b' c' d' e' x y z u o:Value}(h:aB w (fun g=>lo<=g) t1 [a,b,c,d,e])(h':aB w (fun g=>lo<=g) t2 [a',b',c',d',e'])(h'':aB w (fun g=>lo<=g) t3 [x,y,z,u,o])(hlo:lo<=w.heap.size):
 bV (w.alloc (.cells #[a,b,c,d,e,a',b',c',d',e',x,y,z,u,o] 24)) lo (.slice (some ⟨w.heap.size,0,none⟩) 3 3) 3 [t1,t2,t3]:=
 JH (ts:=[t1,t2,t3]) (vals:=[[a,b,c,d,e],[a',b',c',d',e'],[x,y,z,u,o]]) ⟨_,_,rfl,h,_,_,rfl,h',_,_,rfl,h'',rfl⟩ hlo (by simp)
theorem OP(E:PE)(hE:E.Ok)(f:Nat)(IH:yl E f)(v:PV)(w:World)(r:ae×PS)(hpw:PW w E v)(h5:bM E.l v.st≠5)(hr:uD E.bs E.l f v.st=some r):Calls Tryz.prog 68 #[.pointer (some ⟨E.gp,0,none⟩)] w (bB E w v r):=by
 obtain⟨x4,q4,x8,q8,hx,hb,hrq⟩:∃x4 q4 x8 q8,sW E.bs E.l f (dI E.l (ay E.l v.st))=some (x4,q4)/\aN E.bs E.l f .block (jB E.bs E.l q4).2=some ([x8],q8)/\r=(aH E.l q8 v.st.k 5 (cK E.bs E.l (ay E.l v.st)) [x4,(jB E.bs E.l q4).1,x8],q8):=by
  unfold uD at hr;simp only at hr;split at hr
  ·cases hr
  ·rename_i x p h
   split at hr
   ·rename_i b p3 h2
    cases hr
    exact⟨x,p,b,p3,h,h2,rfl⟩
   ·cases hr
 have HX:=kH hx;have HB:=kH hb;have aM:=kH hrq;have fD:=kH IH;have Sq:=kH h5;clear hr hx hb hrq IH h5;have hgl:=hpw.blk.lt;have hk2:w.cell? ⟨E.gp,2,none⟩=some (.int .i64 (v.st.k:Int)):=hpw.blk.cell 2;go_enter Tryz.func68,Tryz.ntmps68
 go_wp2_with fail
 generalize hW1:w.alloc (.cells #[.int .i64 0,.string ⟨#[]⟩,.int .i64 0,.int .i64 0,.slice none 0 0] 24)=W1
 have hb1:Below w.heap.size w W1:=by rw[<- hW1];exact ag _ _
 have gJ:ai W1 w.heap.size 24 #[.int .i64 0,.string ⟨#[]⟩,.int .i64 0,.int .i64 0,.slice none 0 0]:=by rw[<- hW1];exact ai.new w _ _
 have hs1:W1.heap.size=w.heap.size+1:=by rw[<- hW1];simp
 have hm1:=PM.of_below (E:=E) (v:=v) hb1;have h1:=hpw.below hb1;have P1:=hm1;have o5:=kH hs1;have jv:=kH hm1;clear hW1 hs1 hm1 hb1;clear hk2;refine(qJ E hE v _ h1 Sq.out).mono ?_;rintro e w2 ⟨rfl,h2,hm2⟩;have hR2:=hm2.blk h1 gJ;have P2:=P1.trans hm2;obtain⟨v2,hv2⟩:∃vv:PV,(⟨ay E.l v.st,v.lv⟩:PV)=vv:=⟨_,rfl⟩
 rw[hv2]at h2 P2;have gF:Hid (v2.st=ay E.l v.st):=kH (by rw[<- hv2]);clear hv2 hm2;go_wp2_with fail
 refine(tV E hE v2 _ h2).mono ?_;rintro e w3 ⟨rfl,v3,hv3,h3,eu⟩;have fI:=kH hv3;have bT:=eu.blk h2 hR2;have P3:=P2.trans eu;clear hv3 eu;have hnt:cK E.bs E.l v2.st=cK E.bs E.l (ay E.l v.st):=by rw[gF.out]
 rw[hnt];rw[gF.out]at fI;clear hnt;have hcall:=MR E hE v3 w3 h3 f (x4,q4) (by rw[fI.out];exact HX.out);have HC4:=kH hcall;clear hcall;go_wp2_with fail
 refine(HC4.out).mono ?_;rintro e w4 ⟨k4,t4,a4,z4,A4,n4,c4,rfl,kE,v4,hv4,h4,iB⟩;have ja:=kH hv4;have dX:=iB.blk h3 bT;have P4:=P3.trans iB;replace kE:=aB.weak (Q:=fun g=>w.heap.size+1<=g) (fun g _ hg=>abF bT.lt hg) _ _ kE
 clear hv4;go_wp2_with fail
 generalize jk:w4.alloc (.cells #[.int .i64 k4,.string t4,.int .i64 a4,.int .i64 z4,.slice A4 n4 c4] 24)=w5
 have hb5:Below w4.heap.size w4 w5:=by rw[<- jk];exact ag _ _
 have hs5:w5.heap.size=w4.heap.size+1:=by rw[<- jk];simp
 have AP:ai w5 w4.heap.size 24 #[.int .i64 k4,.string t4,.int .i64 a4,.int .i64 z4,.slice A4 n4 c4]:=by rw[<- jk];exact ai.new w4 _ _
 have jF:=aB.keeps (bW.of_below hb5) _ _ kE;have h5:=h4.below hb5;have fw:=dX.below hb5 dX.lt;have P5:=P4.trans (PM.of_below hb5);clear jk;obtain⟨v5,hv5⟩:∃vv,vv=v4:=⟨_,rfl⟩
 rw[<- hv5]at h5 P5 ja;clear hv5 hs5;refine(wJ E hE v5 _ h5).mono ?_;rintro e w6 ⟨k6,t6,a6,z6,A6,n6,c6,rfl,qN,v6,hv6,h6,gQ⟩;have ll:=kH hv6;have gD:=gQ.blk h5 fw;have P6:=P5.trans gQ;replace qN:=aB.weak (Q:=fun g=>w.heap.size+1<=g) (fun g _ hg=>abF fw.lt hg) _ _ qN
 clear hv6;have Ud:=gQ.blk h5 AP;have hU6:=aB.keeps (gQ.dR h5) _ _ jF;have hq4:v5.st=q4:=ja.out;rw[hq4]at ll qN;obtain⟨o6,TT⟩:∃x,(jB E.bs E.l q4).1=x:=⟨_,rfl⟩
 rw[TT]at qN aM;clear TT hq4;go_wp2_with fail
 generalize uM:w6.alloc (.cells #[.int .i64 k6,.string t6,.int .i64 a6,.int .i64 z6,.slice A6 n6 c6] 24)=w7
 have dB:Below w6.heap.size w6 w7:=by rw[<- uM];exact ag _ _
 have hs7:w7.heap.size=w6.heap.size+1:=by rw[<- uM];simp
 have NZ:ai w7 w6.heap.size 24 #[.int .i64 k6,.string t6,.int .i64 a6,.int .i64 z6,.slice A6 n6 c6]:=by rw[<- uM];exact ai.new w6 _ _
 have kY:=aB.keeps (bW.of_below dB) _ _ qN;have h7:=h6.below dB;have eZ:=gD.below dB gD.lt;have P7:=P6.trans (PM.of_below dB);clear uM;have YI:=Ud.below dB Ud.lt;have hU7:=aB.keeps (bW.of_below dB) _ _ hU6;obtain⟨v7,hv7⟩:∃vv,vv=v6:=⟨_,rfl⟩
 rw[<- hv7]at h7 P7 ll;clear hv7 hs7;have hcall:=fD.out.block v7 w7 x8 q8 h7 (by rw[ll.out];exact HB.out);have HC8:=kH hcall;clear hcall;refine(HC8.out).mono ?_;rintro e w8 ⟨k8,t8,a8,z8,A8,n8,c8,rfl,rX,v8,dV,h8,dS⟩;have gL:=kH dV;have eB:=dS.blk h7 eZ;have P8:=P7.trans dS;replace rX:=aB.weak (Q:=fun g=>w.heap.size+1<=g) (fun g _ hg=>abF eZ.lt hg) _ _ rX
 clear dV;have hX8:=dS.blk h7 YI;have hY8:=dS.blk h7 NZ;have hU8:=aB.keeps (dS.dR h7) _ _ hU7;have nQ:=aB.keeps (dS.dR h7) _ _ kY;obtain⟨⟨r0,r1,r2,r3,r4⟩,-⟩:=hX8.five;obtain⟨⟨s0,s1,s2,s3,s4⟩,-⟩:=hY8.five;have EU:=kH eB;have hl4:=hX8.lt;have zl:=hY8.lt;clear hX8 hY8 NZ YI Ud AP;go_wp2_with fail
 generalize qA:w8.alloc (.cells #[.int .i64 k8,.string t8,.int .i64 a8,.int .i64 z8,.slice A8 n8 c8] 24)=w9
 have fA:Below w8.heap.size w8 w9:=by rw[<- qA];exact ag _ _
 have Db:w9.heap.size=w8.heap.size+1:=by rw[<- qA];simp
 have hX9:ai w9 w8.heap.size 24 #[.int .i64 k8,.string t8,.int .i64 a8,.int .i64 z8,.slice A8 n8 c8]:=by rw[<- qA];exact ai.new w8 _ _
 have nX:=aB.keeps (bW.of_below fA) _ _ rX;have h9:=h8.below fA;have eY:=eB.below fA eB.lt;have P9:=P8.trans (PM.of_below fA);clear qA;have hU9:=aB.keeps (bW.of_below fA) _ _ hU8;have qA:=aB.keeps (bW.of_below fA) _ _ nQ;have rG:=kH (yG hU9 qA nX (by have:=eY.lt;omega));generalize FW:w9.alloc (.cells #[.int .i64 k4,.string t4,.int .i64 a4,.int .i64 z4,.slice A4 n4 c4,.int .i64 k6,.string t6,.int .i64 a6,.int .i64 z6,.slice A6 n6 c6,.int .i64 k8,.string t8,.int .i64 a8,.int .i64 z8,.slice A8 n8 c8] 24)=bA at rG⊢
 have jD:Below w9.heap.size w9 bA:=by rw[<- FW];exact ag _ _
 have h10:=h9.below jD;have dK:=eY.below jD eY.lt;have jG:=P9.trans (PM.of_below jD);obtain⟨v10,fZ⟩:∃vv,vv=v8:=⟨_,rfl⟩
 rw[<- fZ]at h10 jG gL;have iX:=gL;rw[<- Db];clear fZ FW Db r0 r1 r2 r3 r4 s0 s1 s2 s3 s4 hX9;refine(dP E hE v10 _ h10 v.st.k 5 (cK E.bs E.l (ay E.l v.st)) (w.heap.size+1) (some ⟨w9.heap.size,0,none⟩) 3 3 [x4,o6,x8] rG.out).mono ?_;rintro e ji ⟨rfl,ig,nR⟩;have h11:=h10.below ig;have jc:=dK.below ig dK.lt;obtain⟨⟨r0,r1,r2,r3,r4⟩,g0,g1,g2,g3,g4⟩:=jc.five;go_wp2_with fail
 have aO:=kH (bJ (v:=v) h11 (jG.trans (PM.of_below ig)) rfl jc hgl nR);clear nR;refine bodyPost_ret (v:=.agg #[.int .i64 5,.string (aX (cK E.bs E.l (ay E.l v.st))),.int .i64 (bO E.l v10.st v.st.k [x4,o6,x8]),.int .i64 (v10.st.last:Int),.slice (some ⟨w9.heap.size,0,none⟩) 3 3]) (by simp[results,Tryz.results68,go_sem,r0,r1,r2,r3,r4]) rfl ?_;exact Eq.mp (congrArg (fun r=>bB E w v r _ _) (show(aH E.l v10.st v.st.k 5 (cK E.bs E.l (ay E.l v.st)) [x4,o6,x8],v10.st)=_ by rw[aM.out,iX.out])) aO.out
theorem vQ{E:PE}{w wz:World}{v vz:PV}{g:Nat}{a0 b0 c0 d0 e0:Value}(hz:PW wz E vz)(hm:PM E w v wz vz)(hb:ai wz g 24 #[a0,b0,c0,d0,e0])(hg:w.heap.size<=g)(a b c d e:Value):
 PW (ek wz g a b c d e) E vz/\PM E w v (ek wz g a b c d e) vz/\ai (ek wz g a b c d e) g 24 #[a,b,c,d,e]/\bW (fun x=>x≠g) wz (ek wz g a b c d e):=by
 have hs:aF (fun x=>x=g) wz (ek wz g a b c d e):=by
  unfold ek;exact(((((aF.refl (fun x=>x=g) wz).setCell (.inl rfl) _).setCell (.inl rfl) _).setCell (.inl rfl) _).setCell (.inl rfl) _).setCell (.inl rfl) _
 have hne:E.gp≠g:=by
  rintro rfl;have h1:=hz.blk;unfold ai at h1 hb;rw[h1]at hb;simp at hb
 refine⟨⟨hz.blk.since hs hne,hz.own.since hs (fun x hx e1=>hz.own.bZ hb (by decide) (by rw[hx,e1])),hz.toks.since hs (fun x hx e1=>hz.toks.bZ hb (by decide) (by rw[hx,e1])),hz.at_,hz.good,hz.last⟩,⟨hm.since.step hs (fun x hx=>.inr (by omega)),hm.fresh⟩,?_,fun x _ hx hc=>hs.block x (abH.1 hc).1 hx⟩;have:=((((hb.fM 0 a).fM 1 b).fM 2 c).fM 3 d).fM 4 e;unfold ek;simpa using this
end Go.Proofs.YtoepemlnlpamlaaGreat
