/- The law NamesBack holds for every text and every number: it returns true, and its arguments read as before. No condition. Part 9: ParD ParF ParG ParH. -/
import Derived.Test.YtoepemlnlpamlaaGreatBakk08
set_option maxRecDepth 100000
set_option maxHeartbeats 4000000
namespace Go.Proofs.YtoepemlnlpamlaaGreat
open Go.RowKit
theorem LQ(E:PE)(hE:E.Ok)(v:PV)(w:World)(hpw:PW w E v)(f:Nat)(r:aa×PS)(hr:nN E.bs E.l f v.st=some r):Calls Tryz.prog 129 #[.pointer (some ⟨E.gp,0,none⟩)] w (bq E w v r):=by
 obtain⟨i0,hi0,hz0,hz1,hz2⟩:=info_parts qp
 obtain⟨kids,q,hkq,hrq⟩:∃kids q,(if bB E.bs E.l (aG E.bs E.l v.st [40]) [41] then some ([],aG E.bs E.l v.st [40]) else jd E.bs E.l f (fH E.bs E.l (aG E.bs E.l v.st [40])).2 [(fH E.bs E.l (aG E.bs E.l v.st [40])).1])=some (kids,q)/\r=(aH E.l (aG E.bs E.l q [41]) v.st.k 6 [] kids,aG E.bs E.l q [41]):=by
  unfold nN at hr;simp only at hr;split at hr
  ·cases hr
  ·rename_i kids q h
   cases hr
   exact⟨kids,q,h,rfl⟩
 have TF:=kH hkq;have aM:=kH hrq;clear hr hkq hrq;have hgl:=hpw.blk.lt;have hk2:w.cell? ⟨E.gp,2,none⟩=some (.int .i64 (v.st.k:Int)):=hpw.blk.cell 2;go_enter Tryz.func129,Tryz.ntmps129
 go_wp2_with fail
 generalize hW1:w.alloc (.cells #[.int .i64 0,.string ⟨#[]⟩,.int .i64 0,.int .i64 0,.slice none 0 0] 24)=W1
 have hb1:Below w.heap.size w W1:=by rw[<- hW1];exact af _ _
 have eD:ai W1 w.heap.size 24 #[.int .i64 0,.string ⟨#[]⟩,.int .i64 0,.int .i64 0,.slice none 0 0]:=by rw[<- hW1];exact ai.new w _ _
 have hs1:W1.heap.size=w.heap.size+1:=by rw[<- hW1];simp
 have hm1:=PM.of_below (E:=E) (v:=v) hb1;have h1:=hpw.below hb1;have P1:=hm1;have nV:=kH hs1;have xq:=kH hm1;clear hW1 hs1 hm1 hb1;generalize zR:W1.alloc (.cells #[] 24)=w2
 have hb2:Below W1.heap.size W1 w2:=by rw[<- zR];exact af _ _
 have hK2:bL w2 (w.heap.size+1) (.slice (some ⟨w.heap.size+1,0,none⟩) 0 0) 0 []:=by
  refine⟨[],?_,rfl,rfl⟩;have hn:=ai.new W1 24 #[];rw[nV.out,zR]at hn;exact aL.block (n:=0) (cur:=#[]) (aaD _) hn (by simp[maxLen]) rfl
 have h2:=h1.below hb2;have hR2:=eD.below hb2 eD.lt;have P2:=P1.trans (PM.of_below hb2);clear zR;refine(ky E hE v [40] _ h2).mono ?_;rintro e w3 ⟨rfl,v3,hv3,h3,dR⟩;have fw:=kH hv3;have df:=dR.blk h2 hR2;have P3:=P2.trans dR;have hK3:=hK2.keeps (dR.dL h2);have fZ:=kH hK3;clear hv3 dR hK2 hK3;have his:=fun x w' (h:PW w' E v3)=>yj E hE v3 x w' h
 obtain⟨b1,hb1⟩:∃x,bB E.bs E.l v3.st [41]=x:=⟨_,rfl⟩
 have HIS:=kH his;have HB1:=kH hb1;clear his hb1 hk2;go_wp2_with fail
 refine(HIS.out [41] _ h3).mono ?_;rintro e w4 ⟨rfl,hb4⟩;rw[HB1.out];have h4:=h3.below hb4;have dS:=df.below hb4 df.lt;have P4:=P3.trans (PM.of_below hb4);have Lj:=kH (fZ.out.keeps (bO.of_below hb4));clear fZ;go_upto_if 14 with fail
 go_cut [4] (fun s4 wx=> ∃A n c vx,s4= .slice A n c/\bL wx (w.heap.size+1) (.slice A n c) n kids/\vx.st=q/\PW wx E vx/\PM E w v wx vx/\ai wx w.heap.size 24 #[.int .i64 0,.string ⟨#[]⟩,.int .i64 0,.int .i64 0,.slice none 0 0])
 case first=>
  cases b1
  ·have hx:jd E.bs E.l f (fH E.bs E.l v3.st).2 [(fH E.bs E.l v3.st).1]=some (kids,q):=by
    have:=TF.out;rw[<- fw.out,HB1.out,if_neg (by simp)]at this;exact this
   have HX:=kH hx;clear hx TF;go_wp2_with fail
   refine(Dv E hE v3 _ h4).mono ?_;rintro e w5 ⟨k5,t5,a5,z5,A5,n5,c5,rfl,gT,v5,hv5,h5,gV⟩;have HV5:=kH hv5;have eT:=gV.blk h4 dS;have P5:=P4.trans gV;clear hv5;obtain⟨TW,zU,Qw,DI⟩:=Lj.out.keeps (gV.dL h4);have Qx:aB w5 (fun g=>w.heap.size+1<=g/\some g≠(Value.slice (some ⟨w.heap.size+1,0,none⟩) 0 0).ownBlock) _ _:=aB.weak (fun g _ hg=>⟨aaE dS.lt hg,fun e1=>by obtain⟨_,hO4,_,_⟩:=Lj.out;have:=(hO4.lt g e1.symm).2;omega⟩) _ _ gT;have hro6:(Value.slice (some ⟨w.heap.size+1,0,none⟩) 0 0).ownBlock≠some w.heap.size:=fun e1=>by have:=(zU.lt _ e1).1;omega
   have hrz6:=eT.lt;have Nw:=kH zU;have aai:=kH Qw;have aaj:=kH Qx;have Hn6:=kH DI;have HRO6:=kH hro6;clear zU Qw Qx DI hro6 gT;go_wp2_with (at_builtin;go_must (refine dm _ rfl (.tmp 15) (.tmp 18) _ rfl (w.heap.size+1) 24 i0 _ 5 64 Tryz.underlying22 hi0 hz0 hz1 hz2 rfl (.slice (some ⟨w.heap.size+1,0,none⟩) 0 0) 0 (List.flatten TW) rfl (Nw.out.alloc _) ⟨w5.heap.size,0,none⟩ 1 1 [.int .i64 k5,.string t5,.int .i64 a5,.int .i64 z5,.slice A5 n5 c5] rfl rfl (jB _ _ _ _ _ _ _ (by go_simp) (by go_simp) (by go_simp) (by go_simp) (by go_simp)) (by simp[Value.oneCell']) (by simp only[maxLen];omega) (by omega) (by simp;omega) ?_);intro vn w6 hown hgrow hat;obtain⟨A6,c6,kP,-,-⟩:=hown.shape;subst kP;have VU:=kH hown;have FK:=kH hgrow;have aay:=kH hat;clear hown hgrow hat)
   have Cr:=kH (bL.pushed aai.out Hn6.out aaj.out VU.out FK.out aay.out);obtain⟨h6,P6,Kl⟩:=kS h5 P5 Nw.out (Nat.le_succ _) FK.out;have fK:=Kl _ _ eT HRO6.out;clear Kl;rw[<- HV5.out]at HX;have hts5:(fH E.bs E.l v3.st).1=(fH E.bs E.l v3.st).1:=rfl;clear hts5;go_loopg [4] f (fun gk s4 wr=> ∃A n c vx ts,s4= .slice A n c/\bL wr (w.heap.size+1) (.slice A n c) n ts/\jd E.bs E.l gk vx.st ts=some (kids,q)/\n<=vx.st.k+1/\PW wr E vx/\PM E w v wr vx/\ai wr w.heap.size 24 #[.int .i64 0,.string ⟨#[]⟩,.int .i64 0,.int .i64 0,.slice none 0 0])
   case atStart=>exact⟨A6,1,c6,v5,[(fH E.bs E.l v3.st).1],rfl,Cr.out,HX.out,by omega,h6,P6,fK⟩
   case round=>
    obtain⟨A7,n7,c7,v7,oZ,rfl,AU,hx7,wZ,h7,P7,ed⟩:=hrel
    cases gk with
    | zero=>simp[jd]at hx7
    | succ gk=>
     rw[jd]at hx7;have rf:=kH hx7;have FH:=kH AU;have I7:=h7.at_;have ze:=hE.most;clear hx7 AU;obtain⟨b7,dE⟩:∃x,bB E.bs E.l v7.st [44]=x:=⟨_,rfl⟩
     have iG:=kH dE;clear dE;go_wp2_with fail
     refine(fE E hE v7 [44] _ h7).mono ?_;rintro e w8 ⟨rfl,v8,dZ,h8,dP⟩;rw[iG.out];have fV:=kH dZ;have dW:=dP.blk h7 ed;have P8:=P7.trans dP;have mH:=kH (FH.out.keeps (dP.dL h7));clear dZ dP;cases b7
     ·have hst:v8.st=v7.st:=by
       rw[fV.out];unfold bC;rw[iG.out,if_neg (by simp)]
      have hkk:oZ=kids/\v7.st=q:=by
       have:=rf.out;rw[iG.out,if_neg (by simp)]at this;simpa using this
      obtain⟨rfl,yo⟩:=hkk;have Fz:=kH (hst.trans yo);clear hst yo;go_wp2_with fail
      go_meet
      exact⟨_,_,_,v8,rfl,mH.out,Fz.out,h8,P8,dW⟩
     ·have hst:v8.st=ay E.l v7.st:=by
       rw[fV.out];unfold bC;rw[iG.out,if_pos rfl]
      have hnx:jd E.bs E.l gk (fH E.bs E.l v8.st).2 (oZ++[(fH E.bs E.l v8.st).1])=some (kids,q):=by
       have:=rf.out;rw[iG.out,if_pos rfl,<- hst]at this;exact this
      have DJ:v8.st.k=v7.st.k+1:=by rw[hst];rfl
      have bD:=kH hnx;have PU:n7<=5001:=by omega
      have Ju:=kH DJ;clear hst hnx DJ;go_wp2_with fail
      refine(Dv E hE v8 _ h8).mono ?_;rintro e w9 ⟨k9,t9,a9,z9,A9,n9,c9,rfl,nP,v9,iy,h9,fD⟩;have j4:=kH iy;have eQ:=fD.blk h8 dW;have P9:=P8.trans fD;clear iy;obtain⟨zD,oh,wJ,pE⟩:=mH.out.keeps (fD.dL h8);have wK:aB w9 (fun g=>w.heap.size+1<=g/\some g≠(Value.slice A7 n7 c7).ownBlock) _ _:=aB.weak (fun g _ hg=>⟨aaE dW.lt hg,fun e1=>by obtain⟨_,hO4,_,_⟩:=mH.out;have:=(hO4.lt g e1.symm).2;omega⟩) _ _ nP;have AP:(Value.slice A7 n7 c7).ownBlock≠some w.heap.size:=fun e1=>by have:=(oh.lt _ e1).1;omega
      have Vp:=eQ.lt;have Am:=kH oh;have Dq:=kH wJ;have Dr:=kH wK;have Jm:=kH pE;have Lb:=kH AP;clear oh wJ wK pE AP nP;go_wp2_with (at_builtin;go_must (refine dm _ rfl (.tmp 22) (.tmp 25) _ rfl (w.heap.size+1) 24 i0 _ 5 64 Tryz.underlying22 hi0 hz0 hz1 hz2 rfl (.slice A7 n7 c7) n7 (List.flatten zD) rfl (Am.out.alloc _) ⟨w9.heap.size,0,none⟩ 1 1 [.int .i64 k9,.string t9,.int .i64 a9,.int .i64 z9,.slice A9 n9 c9] rfl rfl (jB _ _ _ _ _ _ _ (by go_simp) (by go_simp) (by go_simp) (by go_simp) (by go_simp)) (by simp[Value.oneCell']) (by simp only[maxLen];omega) (by omega) (by simp;omega) ?_);intro vn bf hown hgrow hat;obtain⟨oG,c10,kP,-,-⟩:=hown.shape;subst kP;have Aj:=kH hown;have ry:=kH hgrow;have Dt:=kH hat;clear hown hgrow hat)
      have ru:=kH (bL.pushed Dq.out Jm.out Dr.out Aj.out ry.out Dt.out);obtain⟨h10,jH,sJ⟩:=kS h9 P9 Am.out (Nat.le_succ _) ry.out;have dG:=sJ _ _ eQ Lb.out;clear sJ;go_roundg gk
      case measure=>omega
      case rel=>
       refine⟨oG,n7+1,c10,v9,oZ++[(fH E.bs E.l v8.st).1],rfl,ru.out,by rw[j4.out];exact bD.out,?_,h10,jH,dG⟩;have hle:=(IL (s:=E.bs) hE.ends (p:=v8.st) (by rw[hE.len];exact h8.at_)).1;rw[j4.out];have:=Ju.out;omega
  ·have hx:([],v3.st)=(kids,q):=by
    have:=TF.out;rw[<- fw.out,HB1.out,if_pos rfl]at this;exact Option.some.inj this
   cases hx
   go_wp2_with fail
   go_meet
   exact⟨_,_,_,v3,rfl,Lj.out,rfl,h4,P4,dS⟩
 case rest=>
  obtain⟨Ak,nk,ck,vx,rfl,hK,GM,hx,hmx,Te⟩:=hcut;have HKx:=kH hK;have Co:=kH GM;clear hK GM;go_wp2_with fail
  refine(ky E hE vx [41] _ hx).mono ?_;rintro e mE ⟨rfl,v12,kR,h12,ik⟩;have mW:=kH kR;rw[Co.out]at mW;have iN:=ik.blk hx Te;have mG:=hmx.trans ik;have oN:=kH (HKx.out.keeps (ik.dL hx));clear kR ik;go_wp2_with fail
  refine(dN E hE v12 _ h12 v.st.k 6 [] (w.heap.size+1) Ak nk ck kids oN.out).mono ?_;rintro e uw ⟨rfl,iV,qU⟩;have pI:=h12.below iV;have lG:=iN.below iV iN.lt;obtain⟨⟨r0,r1,r2,r3,r4⟩,g0,g1,g2,g3,g4⟩:=lG.five;go_wp2_with fail
  have aV:=kH (bF (v:=v) pI (mG.trans (PM.of_below iV)) rfl lG hgl qU);clear qU;refine bodyPost_ret (v:=.agg #[.int .i64 6,.string (aU []),.int .i64 (bN E.l v12.st v.st.k kids),.int .i64 (v12.st.last:Int),.slice Ak nk ck]) (by simp[results,Tryz.results129,go_sem,r0,r1,r2,r3,r4]) rfl ?_;exact Eq.mp (congrArg (fun r=>bq E w v r _ _) (show(aH E.l v12.st v.st.k 6 [] kids,v12.st)=_ by rw[aM.out,mW.out])) aV.out
theorem CR{s:aP}{l:List jl}(he:mX l){p:PS}(hp:p.k<l.length):Le l p (ja s l p).2:=by
 have h1:=um he hp;have h2:=h1.trans (dY (s:=s) (w:=[58]) he h1.2);unfold ja;simp only;split
 ·rename_i hb
  refine h2.trans (dB he h2.2 ?_).1;rw[Bool.or_eq_true]at hb;rcases hb with hb|hb<;>exact eO hb
 ·exact h2.trans (wh h2.2)
theorem Ul(E:PE)(hE:E.Ok)(v:PV)(w:World)(hpw:PW w E v)(f:Nat)(r:aa×PS)(hr:lK E.bs E.l f v.st=some r)(h5:bG E.l v.st≠5):Calls Tryz.prog 67 #[.pointer (some ⟨E.gp,0,none⟩)] w (bq E w v r):=by
 obtain⟨i0,hi0,hz0,hz1,hz2⟩:=info_parts qp
 obtain⟨kids,q,hkq,hrq⟩:∃kids q,kr E.bs E.l f (ja E.bs E.l (aG E.bs E.l (cK E.l (ay E.l v.st)) [123])).2 [(ja E.bs E.l (aG E.bs E.l (cK E.l (ay E.l v.st)) [123])).1]=some (kids,q)/\r=(aH E.l (aG E.bs E.l q [125]) v.st.k 3 (cB E.bs E.l (ay E.l v.st)) kids,aG E.bs E.l q [125]):=by
  unfold lK at hr;simp only at hr;split at hr
  ·cases hr
  ·rename_i kids q h
   cases hr
   exact⟨kids,q,h,rfl⟩
 have TF:=kH hkq;have aM:=kH hrq;have Rj:=kH h5;clear hr hkq hrq h5;have hgl:=hpw.blk.lt;have hk2:w.cell? ⟨E.gp,2,none⟩=some (.int .i64 (v.st.k:Int)):=hpw.blk.cell 2;go_enter Tryz.func67,Tryz.ntmps67
 go_wp2_with fail
 generalize hW1:w.alloc (.cells #[.int .i64 0,.string ⟨#[]⟩,.int .i64 0,.int .i64 0,.slice none 0 0] 24)=W1
 have hb1:Below w.heap.size w W1:=by rw[<- hW1];exact af _ _
 have eD:ai W1 w.heap.size 24 #[.int .i64 0,.string ⟨#[]⟩,.int .i64 0,.int .i64 0,.slice none 0 0]:=by rw[<- hW1];exact ai.new w _ _
 have hs1:W1.heap.size=w.heap.size+1:=by rw[<- hW1];simp
 have hm1:=PM.of_below (E:=E) (v:=v) hb1;have h1:=hpw.below hb1;have P1:=hm1;have nV:=kH hs1;have xq:=kH hm1;clear hW1 hs1 hm1 hb1;refine(qG E hE v _ h1 Rj.out).mono ?_;rintro e w2 ⟨rfl,h2,hm2⟩;have hR2:=hm2.blk h1 eD;have P2:=P1.trans hm2;obtain⟨v2,hv2⟩:∃vv:PV,(⟨ay E.l v.st,v.lv⟩:PV)=vv:=⟨_,rfl⟩
 rw[hv2]at h2 P2;have gD:Hid (v2.st=ay E.l v.st):=kH (by rw[<- hv2]);clear hv2 hm2;go_wp2_with fail
 refine(sS E hE v2 _ h2).mono ?_;rintro e w3 ⟨rfl,v3,hv3,h3,dR⟩;have fw:=kH hv3;have df:=dR.blk h2 hR2;have P3:=P2.trans dR;clear hv3 dR;have hnt:cB E.bs E.l v2.st=cB E.bs E.l (ay E.l v.st):=by rw[gD.out]
 rw[hnt];rw[gD.out]at fw;clear hnt hk2;go_wp2_with fail
 refine(ky E hE v3 [123] _ h3).mono ?_;rintro e w4 ⟨rfl,v4,hv4,h4,gW⟩;have iU:=kH hv4;have dS:=gW.blk h3 df;have P4:=P3.trans gW;clear hv4 gW;rw[fw.out]at iU;go_wp2_with fail
 refine(Nf E hE v4 _ h4).mono ?_;rintro e w5 ⟨k5,t5,a5,z5,A5,n5,c5,rfl,gT,v5,hv5,h5,gV⟩;have HV5:=kH hv5;have eT:=gV.blk h4 dS;have P5:=P4.trans gV;replace gT:=aB.weak (Q:=fun g=>w.heap.size+1<=g) (fun g _ hg=>aaE dS.lt hg) _ _ gT
 clear hv5;rw[iU.out]at HV5 gT;have hx:=TF.out;rw[<- HV5.out]at hx;have HX:=kH hx
 have hle5:v4.st.k<=v5.st.k:=by
  have:=(CR (s:=E.bs) hE.ends (p:=v4.st) (by rw[hE.len];exact h4.at_)).1;rw[HV5.out,<- iU.out];exact this
 clear hx TF;go_wp2_with fail
 have Cr:=kH (jQ gT (by have:=eT.lt;omega));generalize tF:w5.alloc (.cells #[.int .i64 k5,.string t5,.int .i64 a5,.int .i64 z5,.slice A5 n5 c5] 24)=w6 at Cr⊢
 have hb6:Below w5.heap.size w5 w6:=by rw[<- tF];exact af _ _
 have h6:=h5.below hb6;have fK:=eT.below hb6 eT.lt;have P6:=P5.trans (PM.of_below hb6);clear tF;obtain⟨fld,hfld⟩:∃x,(ja E.bs E.l (aG E.bs E.l (cK E.l (ay E.l v.st)) [123])).1=x:=⟨_,rfl⟩
 rw[hfld]at HX Cr;clear hfld;go_loopg [5] f (fun gk s5 wr=> ∃A n c vx ts,s5= .slice A n c/\bL wr (w.heap.size+1) (.slice A n c) n ts/\kr E.bs E.l gk vx.st ts=some (kids,q)/\n<=vx.st.k+1/\PW wr E vx/\PM E w v wr vx/\ai wr w.heap.size 24 #[.int .i64 0,.string ⟨#[]⟩,.int .i64 0,.int .i64 0,.slice none 0 0])
 case atStart=>exact⟨_,1,_,v5,[fld],rfl,Cr.out,HX.out,by omega,h6,P6,fK⟩
 case round=>
  obtain⟨A7,n7,c7,v7,oZ,rfl,AU,hx7,wZ,h7,P7,ed⟩:=hrel
  cases gk with
  | zero=>simp[kr]at hx7
  | succ gk=>
   rw[kr]at hx7;have rf:=kH hx7;have FH:=kH AU;have I7:=h7.at_;have ze:=hE.most;clear hx7 AU;obtain⟨b7,dE⟩:∃x,bB E.bs E.l v7.st [44]=x:=⟨_,rfl⟩
   have iG:=kH dE;clear dE;go_wp2_with fail
   refine(fE E hE v7 [44] _ h7).mono ?_;rintro e w8 ⟨rfl,v8,dZ,h8,dP⟩;rw[iG.out];have fV:=kH dZ;have dW:=dP.blk h7 ed;have P8:=P7.trans dP;have mH:=kH (FH.out.keeps (dP.dL h7));clear dZ dP;cases b7
   ·have hst:v8.st=v7.st:=by
     rw[fV.out];unfold bC;rw[iG.out,if_neg (by simp)]
    have hkk:oZ=kids/\v7.st=q:=by
     have:=rf.out;rw[iG.out,if_neg (by simp)]at this;simpa using this
    obtain⟨rfl,yo⟩:=hkk;have Fz:=kH (hst.trans yo);clear hst yo;go_wp2_with fail
    refine(ky E hE v8 [125] _ h8).mono ?_;rintro e mE ⟨rfl,v12,kR,h12,ik⟩;have mW:=kH kR;rw[Fz.out]at mW;have iN:=ik.blk h8 dW;have mG:=P8.trans ik;have oN:=kH (mH.out.keeps (ik.dL h8));clear kR ik;go_wp2_with fail
    refine(dN E hE v12 _ h12 v.st.k 3 (cB E.bs E.l (ay E.l v.st)) (w.heap.size+1) A7 n7 c7 oZ oN.out).mono ?_;rintro e uw ⟨rfl,iV,qU⟩;have pI:=h12.below iV;have lG:=iN.below iV iN.lt;obtain⟨⟨r0,r1,r2,r3,r4⟩,g0,g1,g2,g3,g4⟩:=lG.five;go_wp2_with fail
    have aV:=kH (bF (v:=v) pI (mG.trans (PM.of_below iV)) rfl lG hgl qU);clear qU;refine bodyPost_ret (v:=.agg #[.int .i64 3,.string (aU (cB E.bs E.l (ay E.l v.st))),.int .i64 (bN E.l v12.st v.st.k oZ),.int .i64 (v12.st.last:Int),.slice A7 n7 c7]) (by simp[results,Tryz.results67,go_sem,r0,r1,r2,r3,r4]) rfl ?_;exact Eq.mp (congrArg (fun r=>bq E w v r _ _) (show(aH E.l v12.st v.st.k 3 (cB E.bs E.l (ay E.l v.st)) oZ,v12.st)=_ by rw[aM.out,mW.out])) aV.out
   ·have hst:v8.st=ay E.l v7.st:=by
     rw[fV.out];unfold bC;rw[iG.out,if_pos rfl]
    have hnx:kr E.bs E.l gk (ja E.bs E.l v8.st).2 (oZ++[(ja E.bs E.l v8.st).1])=some (kids,q):=by
     have:=rf.out;rw[iG.out,if_pos rfl,<- hst]at this;exact this
    have DJ:v8.st.k=v7.st.k+1:=by rw[hst];rfl
    have bD:=kH hnx;have PU:n7<=5001:=by omega
    have Ju:=kH DJ;clear hst hnx DJ;go_wp2_with fail
    refine(Nf E hE v8 _ h8).mono ?_;rintro e w9 ⟨k9,t9,a9,z9,A9,n9,c9,rfl,nP,v9,iy,h9,fD⟩;have j4:=kH iy;have eQ:=fD.blk h8 dW;have P9:=P8.trans fD;clear iy;obtain⟨zD,oh,wJ,pE⟩:=mH.out.keeps (fD.dL h8);have wK:aB w9 (fun g=>w.heap.size+1<=g/\some g≠(Value.slice A7 n7 c7).ownBlock) _ _:=aB.weak (fun g _ hg=>⟨aaE dW.lt hg,fun e1=>by obtain⟨_,hO4,_,_⟩:=mH.out;have:=(hO4.lt g e1.symm).2;omega⟩) _ _ nP;have AP:(Value.slice A7 n7 c7).ownBlock≠some w.heap.size:=fun e1=>by have:=(oh.lt _ e1).1;omega
    have Vp:=eQ.lt;have Am:=kH oh;have Dq:=kH wJ;have Dr:=kH wK;have Jm:=kH pE;have Lb:=kH AP;clear oh wJ wK pE AP nP;go_wp2_with (at_builtin;go_must (refine dm _ rfl (.tmp 21) (.tmp 24) _ rfl (w.heap.size+1) 24 i0 _ 5 64 Tryz.underlying22 hi0 hz0 hz1 hz2 rfl (.slice A7 n7 c7) n7 (List.flatten zD) rfl (Am.out.alloc _) ⟨w9.heap.size,0,none⟩ 1 1 [.int .i64 k9,.string t9,.int .i64 a9,.int .i64 z9,.slice A9 n9 c9] rfl rfl (jB _ _ _ _ _ _ _ (by go_simp) (by go_simp) (by go_simp) (by go_simp) (by go_simp)) (by simp[Value.oneCell']) (by simp only[maxLen];omega) (by omega) (by simp;omega) ?_);intro vn bf hown hgrow hat;obtain⟨oG,c10,kP,-,-⟩:=hown.shape;subst kP;have Aj:=kH hown;have ry:=kH hgrow;have Dt:=kH hat;clear hown hgrow hat)
    have ru:=kH (bL.pushed Dq.out Jm.out Dr.out Aj.out ry.out Dt.out);obtain⟨h10,jH,sJ⟩:=kS h9 P9 Am.out (Nat.le_succ _) ry.out;have dG:=sJ _ _ eQ Lb.out;clear sJ;go_roundg gk
    case measure=>omega
    case rel=>
     refine⟨oG,n7+1,c10,v9,oZ++[(ja E.bs E.l v8.st).1],rfl,ru.out,by rw[j4.out];exact bD.out,?_,h10,jH,dG⟩;have hle:=(CR (s:=E.bs) hE.ends (p:=v8.st) (by rw[hE.len];exact h8.at_)).1;rw[j4.out];have:=Ju.out;omega
theorem Az{s:aP}{l:List jl}(he:mX l)(hend:oQ s l){f:Nat}{fn:Fn}{p:PS}{x:List aa}{q:PS}(h:aJ s l f fn p=some (x,q))(hp:p.k<l.length)(hr:Ye l p fn):Le l p q/\Yc x fn/\K3 s l p q fn:=by
 obtain⟨f0,x0,q0,h0,h1,h2,h3⟩:=WS he hend _ fn p hp hr (Nat.lt_succ_self _);have e1:=FW (Nat.le_max_left f f0) h;have e2:=FW (Nat.le_max_right f f0) h0;rw[e1]at e2;cases e2
 exact⟨h1,h2,h3⟩
def Tt(E:PE)(w:World)(v:PV)(kids:List aa)(q:PS)(e:Ending)(w':World):Prop:=
 ∃A n c,e= .returned (.slice A n c)/\bL w' w.heap.size (.slice A n c) n kids/\yS E w v q w'
structure xN (E:PE) (f:Nat):Prop where
 expr:∀(lv:Nat) (v:PV) (w:World) (t:aa) (q:PS),PW w E v->1<=lv->lv<=7->aJ E.bs E.l f (.expr lv) v.st=some ([t],q)->Calls Tryz.prog 134 #[.pointer (some ⟨E.gp,0,none⟩),.int .i64 (lv:Int)] w (bq E w v (t,q))
 operand:∀(v:PV) (w:World) (t:aa) (q:PS),PW w E v->aJ E.bs E.l f .operand v.st=some ([t],q)->Calls Tryz.prog 185 #[.pointer (some ⟨E.gp,0,none⟩)] w (bq E w v (t,q))
 args:∀(v:PV) (w:World) (kids:List aa) (q:PS),PW w E v->bG E.l v.st≠5->aJ E.bs E.l f .args v.st=some (kids,q)->Calls Tryz.prog 138 #[.pointer (some ⟨E.gp,0,none⟩)] w (Tt E w v kids q)
 place:∀(v:PV) (w:World) (t:aa) (q:PS),PW w E v->aJ E.bs E.l f .place v.st=some ([t],q)->Calls Tryz.prog 139 #[.pointer (some ⟨E.gp,0,none⟩)] w (bq E w v (t,q))
 stmt:∀(v:PV) (w:World) (t:aa) (q:PS),PW w E v->aJ E.bs E.l f .stmt v.st=some ([t],q)->Calls Tryz.prog 74 #[.pointer (some ⟨E.gp,0,none⟩)] w (bq E w v (t,q))
 block:∀(v:PV) (w:World) (t:aa) (q:PS),PW w E v->aJ E.bs E.l f .block v.st=some ([t],q)->Calls Tryz.prog 131 #[.pointer (some ⟨E.gp,0,none⟩)] w (bq E w v (t,q))
 branch:∀(v:PV) (w:World) (t:aa) (q:PS),PW w E v->bG E.l v.st≠5->aJ E.bs E.l f .branch v.st=some ([t],q)->Calls Tryz.prog 135 #[.pointer (some ⟨E.gp,0,none⟩)] w (bq E w v (t,q))
theorem X0(E:PE)(hE:E.Ok)(f:Nat)(IH:∀f',f'<=f->xN E f')(v:PV)(w:World)(t:aa)(q:PS)(hpw:PW w E v)(hr:aJ E.bs E.l (f+1) .block v.st=some ([t],q)):Calls Tryz.prog 131 #[.pointer (some ⟨E.gp,0,none⟩)] w (bq E w v (t,q)):=by
 obtain⟨i0,hi0,hz0,hz1,hz2⟩:=info_parts qp;rw[aJ]at hr;have HR:=kH hr;have eH:=kH IH;clear hr IH;have hgl:=hpw.blk.lt;have hk2:w.cell? ⟨E.gp,2,none⟩=some (.int .i64 (v.st.k:Int)):=hpw.blk.cell 2;go_enter Tryz.func131,Tryz.ntmps131
 go_wp2_with fail
 generalize hW1:w.alloc (.cells #[.int .i64 0,.string ⟨#[]⟩,.int .i64 0,.int .i64 0,.slice none 0 0] 24)=W1
 have hb1:Below w.heap.size w W1:=by rw[<- hW1];exact af _ _
 have eD:ai W1 w.heap.size 24 #[.int .i64 0,.string ⟨#[]⟩,.int .i64 0,.int .i64 0,.slice none 0 0]:=by rw[<- hW1];exact ai.new w _ _
 have hs1:W1.heap.size=w.heap.size+1:=by rw[<- hW1];simp
 have hm1:=PM.of_below (E:=E) (v:=v) hb1;have h1:=hpw.below hb1;have P1:=hm1;have nV:=kH hs1;have xq:=kH hm1;clear hW1 hs1 hm1 hb1;generalize zR:W1.alloc (.cells #[] 24)=w2
 have hb2:Below W1.heap.size W1 w2:=by rw[<- zR];exact af _ _
 have hK2:bL w2 (w.heap.size+1) (.slice (some ⟨w.heap.size+1,0,none⟩) 0 0) 0 []:=by
  refine⟨[],?_,rfl,rfl⟩;have hn:=ai.new W1 24 #[];rw[nV.out,zR]at hn;exact aL.block (n:=0) (cur:=#[]) (aaD _) hn (by simp[maxLen]) rfl
 have h2:=h1.below hb2;have hR2:=eD.below hb2 eD.lt;have P2:=P1.trans (PM.of_below hb2);clear zR;obtain⟨b0,hb0⟩:∃x,bB E.bs E.l v.st [123]=x:=⟨_,rfl⟩
 have HB0:=kH hb0;clear hb0;refine(ky E hE v [123] _ h2).mono ?_;rintro e w3 ⟨rfl,v3,hv3,h3,dR⟩;rw[HB0.out];have fw:=kH hv3;have df:=dR.blk h2 hR2;have P3:=P2.trans dR;have fZ:=kH (hK2.keeps (dR.dL h2));clear hv3 dR hK2 hk2;cases b0
 ·have hst:v3.st=gZ E.l v.st 4 [123]:=by
   rw[fw.out];unfold aG;rw[HB0.out,if_neg (by simp)]
  have aM:Hid ((t,q)=(aH E.l (gZ E.l v.st 4 [123]) v.st.k 11 [] [],gZ E.l v.st 4 [123])):=kH (by
   have:=HR.out;rw[HB0.out,if_neg (by simp)]at this;simp at this
   rw[<- this.1,<- this.2])
  replace fw:=kH hst
  clear hst;go_wp2_with fail
  refine(ig E hE v3 _ h3 v.st.k 11 [] (w.heap.size+1)).mono ?_;rintro e w4 ⟨rfl,hb4,jC⟩;have h4:=h3.below hb4;have dS:=df.below hb4 df.lt;obtain⟨⟨r0,r1,r2,r3,r4⟩,g0,g1,g2,g3,g4⟩:=dS.five;go_wp2_with fail
  have aV:=kH (bF (v:=v) h4 (P3.trans (PM.of_below hb4)) rfl dS hgl jC);clear jC;refine bodyPost_ret (v:=.agg #[.int .i64 11,.string (aU []),.int .i64 (bN E.l v3.st v.st.k []),.int .i64 (v3.st.last:Int),.slice none 0 0]) (by simp[results,Tryz.results131,go_sem,r0,r1,r2,r3,r4]) rfl ?_;exact Eq.mp (congrArg (fun r=>bq E w v r _ _) (show(aH E.l v3.st v.st.k 11 [] [],v3.st)=_ by rw[fw.out,aM.out])) aV.out
 ·have hst:v3.st=ay E.l v.st:=by
   rw[fw.out];unfold aG;rw[HB0.out,if_pos rfl]
  obtain⟨kids,q1,hx,hrq⟩:∃kids q1,aJ E.bs E.l f (.nJ []) v3.st=some (kids,q1)/\(t,q)=(aH E.l (aG E.bs E.l q1 [125]) v.st.k 11 [] kids,aG E.bs E.l q1 [125]):=by
   have:=HR.out;rw[HB0.out,if_pos rfl]at this;obtain⟨x,p,h1,h2⟩:=sU this;simp at h2;exact⟨x,p,by rw[hst];exact h1,by rw[<- h2.1,<- h2.2]⟩
  have HX:=kH hx;have aM:=kH hrq;clear hst hx hrq;go_wp2_with fail
  go_loopg [4] f (fun gk s4 wr=> ∃A n c vx ts,s4= .slice A n c/\bL wr (w.heap.size+1) (.slice A n c) n ts/\gk<=f/\aJ E.bs E.l gk (.nJ ts) vx.st=some (kids,q1)/\n<=vx.st.k/\PW wr E vx/\PM E w v wr vx/\ai wr w.heap.size 24 #[.int .i64 0,.string ⟨#[]⟩,.int .i64 0,.int .i64 0,.slice none 0 0])
  case atStart=>exact⟨_,0,_,v3,[],rfl,fZ.out,aaD _,HX.out,Nat.zero_le _,h3,P3,df⟩
  case round=>
   obtain⟨A7,n7,c7,v7,oZ,rfl,AU,hgf,hx7,wZ,h7,P7,ed⟩:=hrel
   cases gk with
   | zero=>simp[aJ]at hx7
   | succ gk=>
    rw[aJ]at hx7;have rf:=kH hx7;have FH:=kH AU;have I7:=h7.at_;have ze:=hE.most;clear hx7 AU;have hst:=MB E hE v7 wr h7;obtain⟨b7,dE⟩:∃x,jN E.bs E.l v7.st=x:=⟨_,rfl⟩
    rw[dE]at hst;have iG:=kH dE;have HST:=kH hst;clear dE hst;go_wp2_with fail
    refine HST.out.mono ?_;rintro e w8 ⟨rfl,dK⟩;have h8:=h7.below dK;have dW:=ed.below dK ed.lt;have P8:=P7.trans (PM.of_below dK);have mH:=kH (FH.out.keeps (bO.of_below dK));cases b7
    ·obtain⟨x9,q9,yl,hnx⟩:∃x9 q9,aJ E.bs E.l gk .stmt v7.st=some ([x9],q9)/\aJ E.bs E.l gk (.nJ (oZ++[x9])) q9=some (kids,q1):=by
      have:=rf.out;rw[iG.out,if_neg (by simp)]at this;obtain⟨x,p,h1,h2⟩:=ek this;exact⟨x,p,h1,h2⟩
     have hpr:=Az hE.ends hE.empty yl (by rw[hE.len];exact h7.at_) trivial;have hlt:v7.st.k<q9.k:=hpr.2.2 iG.out;have hcall:=(eH.out gk (by omega)).stmt v7 w8 x9 q9 h8 yl;have mr:=kH hcall;have bD:=kH hnx;have PU:n7<=5001:=by omega
     clear hpr yl hcall hnx;go_wp2_with fail
     refine mr.out.mono ?_;rintro e w9 ⟨k9,t9,a9,z9,A9,n9,c9,rfl,nP,v9,iy,h9,fD⟩;have j4:=kH iy;have eQ:=fD.blk h8 dW;have P9:=P8.trans fD;clear iy;obtain⟨zD,oh,wJ,pE⟩:=mH.out.keeps (fD.dL h8);have wK:aB w9 (fun g=>w.heap.size+1<=g/\some g≠(Value.slice A7 n7 c7).ownBlock) _ _:=aB.weak (fun g _ hg=>⟨aaE dW.lt hg,fun e1=>by obtain⟨_,hO4,_,_⟩:=mH.out;have:=(hO4.lt g e1.symm).2;omega⟩) _ _ nP;have AP:(Value.slice A7 n7 c7).ownBlock≠some w.heap.size:=fun e1=>by have:=(oh.lt _ e1).1;omega
     have Vp:=eQ.lt;have Am:=kH oh;have Dq:=kH wJ;have Dr:=kH wK;have Jm:=kH pE;have Lb:=kH AP;clear oh wJ wK pE AP nP;go_wp2_with (at_builtin;go_must (refine dm _ rfl (.tmp 19) (.tmp 22) _ rfl (w.heap.size+1) 24 i0 _ 5 64 Tryz.underlying22 hi0 hz0 hz1 hz2 rfl (.slice A7 n7 c7) n7 (List.flatten zD) rfl (Am.out.alloc _) ⟨w9.heap.size,0,none⟩ 1 1 [.int .i64 k9,.string t9,.int .i64 a9,.int .i64 z9,.slice A9 n9 c9] rfl rfl (jB _ _ _ _ _ _ _ (by go_simp) (by go_simp) (by go_simp) (by go_simp) (by go_simp)) (by simp[Value.oneCell']) (by simp only[maxLen];omega) (by omega) (by simp;omega) ?_);intro vn bf hown hgrow hat;obtain⟨oG,c10,kP,-,-⟩:=hown.shape;subst kP;have Aj:=kH hown;have ry:=kH hgrow;have Dt:=kH hat;clear hown hgrow hat)
     have ru:=kH (bL.pushed Dq.out Jm.out Dr.out Aj.out ry.out Dt.out);obtain⟨h10,jH,sJ⟩:=kS h9 P9 Am.out (Nat.le_succ _) ry.out;have dG:=sJ _ _ eQ Lb.out;clear sJ;go_roundg gk
     case measure=>omega
     case rel=>
      refine⟨oG,n7+1,c10,v9,oZ++[x9],rfl,ru.out,by omega,by rw[j4.out];exact bD.out,?_,h10,jH,dG⟩;rw[j4.out];show n7+1<=q9.k;omega
    ·have hkk:oZ=kids/\v7.st=q1:=by
      have:=rf.out;rw[iG.out,if_pos rfl]at this;simpa using this
     obtain⟨rfl,yo⟩:=hkk;have Fz:=kH yo;clear yo;go_wp2_with fail
     refine(ky E hE v7 [125] _ h8).mono ?_;rintro e mE ⟨rfl,v12,kR,h12,ik⟩;have mW:=kH kR;rw[Fz.out]at mW;have iN:=ik.blk h8 dW;have mG:=P8.trans ik;have oN:=kH (mH.out.keeps (ik.dL h8));clear kR ik;go_wp2_with fail
     refine(dN E hE v12 _ h12 v.st.k 11 [] (w.heap.size+1) A7 n7 c7 oZ oN.out).mono ?_;rintro e uw ⟨rfl,iV,qU⟩;have pI:=h12.below iV;have lG:=iN.below iV iN.lt;obtain⟨⟨r0,r1,r2,r3,r4⟩,g0,g1,g2,g3,g4⟩:=lG.five;go_wp2_with fail
     have aV:=kH (bF (v:=v) pI (mG.trans (PM.of_below iV)) rfl lG hgl qU);clear qU;refine bodyPost_ret (v:=.agg #[.int .i64 11,.string (aU []),.int .i64 (bN E.l v12.st v.st.k oZ),.int .i64 (v12.st.last:Int),.slice A7 n7 c7]) (by simp[results,Tryz.results131,go_sem,r0,r1,r2,r3,r4]) rfl ?_;exact Eq.mp (congrArg (fun r=>bq E w v r _ _) (show(aH E.l v12.st v.st.k 11 [] oZ,v12.st)=_ by rw[aM.out,mW.out])) aV.out
theorem NS(E:PE)(hE:E.Ok)(f:Nat)(IH:∀f',f'<=f->xN E f')(v:PV)(w:World)(kids:List aa)(q:PS)(hpw:PW w E v)(h5:bG E.l v.st≠5)(hr:aJ E.bs E.l (f+1) .args v.st=some (kids,q)):Calls Tryz.prog 138 #[.pointer (some ⟨E.gp,0,none⟩)] w (Tt E w v kids q):=by
 obtain⟨i0,hi0,hz0,hz1,hz2⟩:=info_parts qp;rw[aJ]at hr;have HR:=kH hr;have eH:=kH IH;have Rj:=kH h5;clear hr IH h5;go_enter Tryz.func138,Tryz.ntmps138
 go_wp2_with fail
 generalize zR:w.alloc (.cells #[] 24)=w2
 have hb2:Below w.heap.size w w2:=by rw[<- zR];exact af _ _
 have hK2:bL w2 w.heap.size (.slice (some ⟨w.heap.size,0,none⟩) 0 0) 0 []:=by
  refine⟨[],?_,rfl,rfl⟩;have hn:=ai.new w 24 #[];rw[zR]at hn;exact aL.block (n:=0) (cur:=#[]) (aaD _) hn (by simp[maxLen]) rfl
 have h2:=hpw.below hb2;have P2:=PM.of_below (E:=E) (v:=v) hb2;clear zR;refine(qG E hE v _ h2 Rj.out).mono ?_;rintro e w3 ⟨rfl,h3,dR⟩;have P3:=P2.trans dR;obtain⟨v3,hv3⟩:∃vv:PV,(⟨ay E.l v.st,v.lv⟩:PV)=vv:=⟨_,rfl⟩
 rw[hv3]at h3 P3 dR;have fw:Hid (v3.st=ay E.l v.st):=kH (by rw[<- hv3]);have fZ:=kH (hK2.keeps (dR.dL h2));clear hv3 dR hK2;have his:=fun x w' (h:PW w' E v3)=>yj E hE v3 x w' h
 obtain⟨b1,hb1⟩:∃x,bB E.bs E.l v3.st [41]=x:=⟨_,rfl⟩
 have HIS:=kH his;have HB1:=kH hb1;clear his hb1;go_wp2_with fail
 refine(HIS.out [41] _ h3).mono ?_;rintro e w4 ⟨rfl,hb4⟩;rw[HB1.out];have h4:=h3.below hb4;have P4:=P3.trans (PM.of_below hb4);have Lj:=kH (fZ.out.keeps (bO.of_below hb4));clear fZ
 obtain⟨q1,hq1,hx1⟩:∃q1,q=aG E.bs E.l q1 [41]/\(if bB E.bs E.l v3.st [41] then kids=[]/\q1=v3.st else ∃x p,aJ E.bs E.l f (.expr 1) v3.st=some ([x],p)/\aJ E.bs E.l f (.mM [x]) p=some (kids,q1)):=by
  have:=HR.out;rw[<- fw.out,HB1.out]at this;rw[HB1.out];cases b1
  ·rw[if_neg (by simp)]at this
   obtain⟨x,p,h1,h2⟩:=ek this;obtain⟨ks,p2,h3,h4⟩:=sU h2;simp at h4;exact⟨p2,h4.2.symm,by rw[if_neg (by simp)];exact⟨x,p,h1,by rw[h3,h4.1]⟩⟩
  ·rw[if_pos rfl]at this
   injection this with this
   injection this with e1 e2
   exact⟨v3.st,e2.symm,by rw[if_pos rfl];exact⟨e1.symm,rfl⟩⟩
 have Yq:=kH hq1;have HX1:=kH hx1;clear hq1 hx1 HR;go_upto_if 9 with fail
 go_cut [3] (fun s3 wx=> ∃A n c vx,s3= .slice A n c/\bL wx w.heap.size (.slice A n c) n kids/\vx.st=q1/\PW wx E vx/\PM E w v wx vx)
 case first=>
  cases b1
  ·have hx:=HX1.out
   rw[HB1.out,if_neg (by simp)]at hx;obtain⟨x5,p5,hx5,hxl⟩:=hx;have hcall:=(eH.out f (aaD _)).expr 1 v3 w4 x5 p5 h4 (by omega) (by omega) hx5;have mr:=kH hcall;have Tv:=kH hxl;have hpr:=Az hE.ends hE.empty hx5 (by rw[hE.len];exact h4.at_) ⟨by omega,by omega⟩;have hle:=hpr.1.1;clear hcall hxl hx5 hpr HX1;go_wp2_with fail
   refine mr.out.mono ?_;rintro e w5 ⟨k5,t5,a5,z5,A5,n5,c5,rfl,gT,v5,hv5,h5,gV⟩;have HV5:=kH hv5;have P5:=P4.trans gV;clear hv5;obtain⟨TW,zU,Qw,DI⟩:=Lj.out.keeps (gV.dL h4);have Qx:aB w5 (fun g=>w.heap.size<=g/\some g≠(Value.slice (some ⟨w.heap.size,0,none⟩) 0 0).ownBlock) _ _:=aB.weak (fun g _ hg=>⟨aaE P4.since.size hg,fun e1=>by obtain⟨_,hO4,_,_⟩:=Lj.out;have:=(hO4.lt g e1.symm).2;omega⟩) _ _ gT;have hrz6:=P5.since.size;have Nw:=kH zU;have aai:=kH Qw;have aaj:=kH Qx;have Hn6:=kH DI;clear zU Qw Qx DI gT;go_wp2_with (at_builtin;go_must (refine dm _ rfl (.tmp 10) (.tmp 13) _ rfl (w.heap.size) 24 i0 _ 5 64 Tryz.underlying22 hi0 hz0 hz1 hz2 rfl (.slice (some ⟨w.heap.size,0,none⟩) 0 0) 0 (List.flatten TW) rfl (Nw.out.alloc _) ⟨w5.heap.size,0,none⟩ 1 1 [.int .i64 k5,.string t5,.int .i64 a5,.int .i64 z5,.slice A5 n5 c5] rfl rfl (jB _ _ _ _ _ _ _ (by go_simp) (by go_simp) (by go_simp) (by go_simp) (by go_simp)) (by simp[Value.oneCell']) (by simp only[maxLen];omega) (by omega) (by simp;omega) ?_);intro vn w6 hown hgrow hat;obtain⟨A6,c6,kP,-,-⟩:=hown.shape;subst kP;have VU:=kH hown;have FK:=kH hgrow;have aay:=kH hat;clear hown hgrow hat)
   have Cr:=kH (bL.pushed aai.out Hn6.out aaj.out VU.out FK.out aay.out);obtain⟨h6,P6,Kl⟩:=kS h5 P5 Nw.out (aaD _) FK.out;clear Kl;go_loopg [3] f (fun gk s3 wr=> ∃A n c vx ts,s3= .slice A n c/\bL wr w.heap.size (.slice A n c) n ts/\gk<=f/\aJ E.bs E.l gk (.mM ts) vx.st=some (kids,q1)/\n<=vx.st.k+1/\PW wr E vx/\PM E w v wr vx)
   case atStart=>exact⟨A6,1,c6,v5,[x5],rfl,Cr.out,aaD _,by rw[HV5.out];exact Tv.out,by omega,h6,P6⟩
   case round=>
    obtain⟨A7,n7,c7,v7,oZ,rfl,AU,hgf,hx7,wZ,h7,P7⟩:=hrel
    cases gk with
    | zero=>simp[aJ]at hx7
    | succ gk=>
     rw[aJ]at hx7;have rf:=kH hx7;have FH:=kH AU;have I7:=h7.at_;have ze:=hE.most;clear hx7 AU;obtain⟨b7,dE⟩:∃x,bB E.bs E.l v7.st [44]=x:=⟨_,rfl⟩
     have iG:=kH dE;clear dE;go_wp2_with fail
     refine(fE E hE v7 [44] _ h7).mono ?_;rintro e w8 ⟨rfl,v8,dZ,h8,dP⟩;rw[iG.out];have fV:=kH dZ;have P8:=P7.trans dP;have mH:=kH (FH.out.keeps (dP.dL h7));clear dZ dP;cases b7
     ·have hst:v8.st=v7.st:=by
       rw[fV.out];unfold bC;rw[iG.out,if_neg (by simp)]
      have hkk:oZ=kids/\v7.st=q1:=by
       have:=rf.out;rw[iG.out,if_neg (by simp)]at this;simpa using this
      obtain⟨rfl,yo⟩:=hkk;have Fz:=kH (hst.trans yo);clear hst yo;go_wp2_with fail
      go_meet
      exact⟨_,_,_,v8,rfl,mH.out,Fz.out,h8,P8⟩
     ·have hst:v8.st=ay E.l v7.st:=by
       rw[fV.out];unfold bC;rw[iG.out,if_pos rfl]
      obtain⟨x9,q9,yl,hnx⟩:∃x9 q9,aJ E.bs E.l gk (.expr 1) v8.st=some ([x9],q9)/\aJ E.bs E.l gk (.mM (oZ++[x9])) q9=some (kids,q1):=by
       have:=rf.out;rw[iG.out,if_pos rfl,<- hst]at this;exact ek this
      have DJ:v8.st.k=v7.st.k+1:=by rw[hst];rfl
      have hpr:=Az hE.ends hE.empty yl (by rw[hE.len];exact h8.at_) ⟨by omega,by omega⟩;have hlt:=hpr.1.1;have hcall:=(eH.out gk (by omega)).expr 1 v8 w8 x9 q9 h8 (by omega) (by omega) yl;have mr:=kH hcall;have bD:=kH hnx;have Ju:=kH DJ;have PU:n7<=5001:=by omega
      clear hst hpr yl hcall hnx DJ;go_wp2_with fail
      refine mr.out.mono ?_;rintro e w9 ⟨k9,t9,a9,z9,A9,n9,c9,rfl,nP,v9,iy,h9,fD⟩;have j4:=kH iy;have P9:=P8.trans fD;clear iy;obtain⟨zD,oh,wJ,pE⟩:=mH.out.keeps (fD.dL h8);have wK:aB w9 (fun g=>w.heap.size<=g/\some g≠(Value.slice A7 n7 c7).ownBlock) _ _:=aB.weak (fun g _ hg=>⟨aaE P8.since.size hg,fun e1=>by obtain⟨_,hO4,_,_⟩:=mH.out;have:=(hO4.lt g e1.symm).2;omega⟩) _ _ nP;have Vp:=P9.since.size;have Am:=kH oh;have Dq:=kH wJ;have Dr:=kH wK;have Jm:=kH pE;clear oh wJ wK pE nP;go_wp2_with (at_builtin;go_must (refine dm _ rfl (.tmp 17) (.tmp 20) _ rfl (w.heap.size) 24 i0 _ 5 64 Tryz.underlying22 hi0 hz0 hz1 hz2 rfl (.slice A7 n7 c7) n7 (List.flatten zD) rfl (Am.out.alloc _) ⟨w9.heap.size,0,none⟩ 1 1 [.int .i64 k9,.string t9,.int .i64 a9,.int .i64 z9,.slice A9 n9 c9] rfl rfl (jB _ _ _ _ _ _ _ (by go_simp) (by go_simp) (by go_simp) (by go_simp) (by go_simp)) (by simp[Value.oneCell']) (by simp only[maxLen];omega) (by omega) (by simp;omega) ?_);intro vn bf hown hgrow hat;obtain⟨oG,c10,kP,-,-⟩:=hown.shape;subst kP;have Aj:=kH hown;have ry:=kH hgrow;have Dt:=kH hat;clear hown hgrow hat)
      have ru:=kH (bL.pushed Dq.out Jm.out Dr.out Aj.out ry.out Dt.out);obtain⟨h10,jH,sJ⟩:=kS h9 P9 Am.out (aaD _) ry.out;clear sJ;go_roundg gk
      case measure=>omega
      case rel=>
       refine⟨oG,n7+1,c10,v9,oZ++[x9],rfl,ru.out,by omega,by rw[j4.out];exact bD.out,?_,h10,jH⟩;rw[j4.out];have:=Ju.out;show n7+1<=q9.k+1;omega
  ·have hx:=HX1.out
   rw[HB1.out,if_pos rfl]at hx;obtain⟨rfl,hq⟩:=hx;have HQ:=kH hq.symm;clear hq;go_wp2_with fail
   go_meet
   exact⟨_,_,_,v3,rfl,Lj.out,HQ.out,h4,P4⟩
 case rest=>
  obtain⟨Ak,nk,ck,vx,rfl,hK,GM,hx,hmx⟩:=hcut;have HKx:=kH hK;have Co:=kH GM;clear hK GM;go_wp2_with fail
  refine(ky E hE vx [41] _ hx).mono ?_;rintro e mE ⟨rfl,v12,kR,h12,ik⟩;have hst:v12.st=q:=by rw[kR,Co.out,Yq.out]
  have mG:=hmx.trans ik;have oN:=kH (HKx.out.keeps (ik.dL hx));have HST:=kH hst;clear kR ik hst;go_wp2_with fail
  go_ret
  exact⟨Ak,nk,ck,rfl,oN.out,v12,HST.out,h12,mG⟩
end Go.Proofs.YtoepemlnlpamlaaGreat
