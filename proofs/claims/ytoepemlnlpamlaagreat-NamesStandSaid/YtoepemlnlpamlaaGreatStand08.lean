/- The law NamesStand holds: for every text and every number the law returns true, and its arguments read as before. No condition. Part 8: ParD ParF ParG ParH. -/
import Derived.Test.YtoepemlnlpamlaaGreatStand07
set_option maxRecDepth 100000
set_option maxHeartbeats 4000000
namespace Go.Proofs.YtoepemlnlpamlaaGreat
open Go.RowKit
theorem Lj(E:PE)(hE:E.Ok)(v:PV)(w:World)(hpw:PW w E v)(f:Nat)(r:aa×PS)(hr:qz E.bs E.l f v.st=some r):Calls Tryz.prog 129 #[.pointer (some ⟨E.gp,0,none⟩)] w (bK E w v r):=by
 obtain⟨i0,hi0,hz0,hz1,hz2⟩:=info_parts pF
 obtain⟨kids,q,hkq,hrq⟩:∃kids q,(if bM E.bs E.l (aH E.bs E.l v.st [40]) [41] then some ([],aH E.bs E.l v.st [40]) else jX E.bs E.l f (gZ E.bs E.l (aH E.bs E.l v.st [40])).2 [(gZ E.bs E.l (aH E.bs E.l v.st [40])).1])=some (kids,q)/\r=(aI E.l (aH E.bs E.l q [41]) v.st.k 6 [] kids,aH E.bs E.l q [41]):=by
  unfold qz at hr;simp only at hr;split at hr
  ·cases hr
  ·rename_i kids q h
   cases hr
   exact⟨kids,q,h,rfl⟩
 have SN:=kH hkq;have aV:=kH hrq;clear hr hkq hrq;have hgl:=hpw.blk.lt;have hk2:w.cell? ⟨E.gp,2,none⟩=some (.int .i64 (v.st.k:Int)):=hpw.blk.cell 2;go_enter Tryz.func129,Tryz.ntmps129
 go_wp2_with fail
 generalize hW1:w.alloc (.cells #[.int .i64 0,.string ⟨#[]⟩,.int .i64 0,.int .i64 0,.slice none 0 0] 24)=W1
 have hb1:Below w.heap.size w W1:=by rw[<- hW1];exact ae _ _
 have eP:ak W1 w.heap.size 24 #[.int .i64 0,.string ⟨#[]⟩,.int .i64 0,.int .i64 0,.slice none 0 0]:=by rw[<- hW1];exact ak.new w _ _
 have hs1:W1.heap.size=w.heap.size+1:=by rw[<- hW1];simp
 have hm1:=PM.of_below (E:=E) (v:=v) hb1;have h1:=hpw.below hb1;have P1:=hm1;have pJ:=kH hs1;have xB:=kH hm1;clear hW1 hs1 hm1 hb1;generalize Aq:W1.alloc (.cells #[] 24)=w2
 have hb2:Below W1.heap.size W1 w2:=by rw[<- Aq];exact ae _ _
 have hK2:bT w2 (w.heap.size+1) (.slice (some ⟨w.heap.size+1,0,none⟩) 0 0) 0 []:=by
  refine⟨[],?_,rfl,rfl⟩;have hn:=ak.new W1 24 #[];rw[pJ.out,Aq]at hn;exact aP.block (n:=0) (cur:=#[]) (aab _) hn (by simp[maxLen]) rfl
 have h2:=h1.below hb2;have hR2:=eP.below hb2 eP.lt;have P2:=P1.trans (PM.of_below hb2);clear Aq;refine(kR E hE v [40] _ h2).mono ?_;rintro e w3 ⟨rfl,v3,hv3,h3,eH⟩;have fU:=kH hv3;have dD:=eH.blk h2 hR2;have P3:=P2.trans eH;have hK3:=hK2.keeps (eH.dZ h2);have gq:=kH hK3;clear hv3 eH hK2 hK3;have his:=fun x w' (h:PW w' E v3)=>yu E hE v3 x w' h
 obtain⟨b1,hb1⟩:∃x,bM E.bs E.l v3.st [41]=x:=⟨_,rfl⟩
 have HIS:=kH his;have HB1:=kH hb1;clear his hb1 hk2;go_wp2_with fail
 refine(HIS.out [41] _ h3).mono ?_;rintro e w4 ⟨rfl,hb4⟩;rw[HB1.out];have h4:=h3.below hb4;have fB:=dD.below hb4 dD.lt;have P4:=P3.trans (PM.of_below hb4);have El:=kH (gq.out.keeps (dB.of_below hb4));clear gq;go_upto_if 14 with fail
 go_cut [4] (fun s4 wx=> ∃A n c vx,s4= .slice A n c/\bT wx (w.heap.size+1) (.slice A n c) n kids/\vx.st=q/\PW wx E vx/\PM E w v wx vx/\ak wx w.heap.size 24 #[.int .i64 0,.string ⟨#[]⟩,.int .i64 0,.int .i64 0,.slice none 0 0])
 case first=>
  cases b1
  ·have hx:jX E.bs E.l f (gZ E.bs E.l v3.st).2 [(gZ E.bs E.l v3.st).1]=some (kids,q):=by
    have:=SN.out;rw[<- fU.out,HB1.out,if_neg (by simp)]at this;exact this
   have HX:=kH hx;clear hx SN;go_wp2_with fail
   refine(DT E hE v3 _ h4).mono ?_;rintro e w5 ⟨k5,t5,a5,z5,A5,n5,c5,rfl,jH,v5,hv5,h5,iH⟩;have HV5:=kH hv5;have fK:=iH.blk h4 fB;have P5:=P4.trans iH;clear hv5;obtain⟨Tw,BG,PQ,uD⟩:=El.out.keeps (iH.dZ h4);have PT:aF w5 (fun g=>w.heap.size+1<=g/\some g≠(Value.slice (some ⟨w.heap.size+1,0,none⟩) 0 0).ownBlock) _ _:=aF.weak (fun g _ hg=>⟨aac fB.lt hg,fun e1=>by obtain⟨_,hO4,_,_⟩:=El.out;have:=(hO4.lt g e1.symm).2;omega⟩) _ _ jH;have hro6:(Value.slice (some ⟨w.heap.size+1,0,none⟩) 0 0).ownBlock≠some w.heap.size:=fun e1=>by have:=(BG.lt _ e1).1;omega
   have hrz6:=fK.lt;have Nf:=kH BG;have Zt:=kH PQ;have Zu:=kH PT;have Hn6:=kH uD;have HRO6:=kH hro6;clear BG PQ PT uD hro6 jH;go_wp2_with (at_builtin;go_must (refine dP _ rfl (.tmp 15) (.tmp 18) _ rfl (w.heap.size+1) 24 i0 _ 5 64 Tryz.underlying22 hi0 hz0 hz1 hz2 rfl (.slice (some ⟨w.heap.size+1,0,none⟩) 0 0) 0 (List.flatten Tw) rfl (Nf.out.alloc _) ⟨w5.heap.size,0,none⟩ 1 1 [.int .i64 k5,.string t5,.int .i64 a5,.int .i64 z5,.slice A5 n5 c5] rfl rfl (jr _ _ _ _ _ _ _ (by go_simp) (by go_simp) (by go_simp) (by go_simp) (by go_simp)) (by simp[Value.oneCell']) (by simp only[maxLen];omega) (by omega) (by simp;omega) ?_);intro vn w6 hown hgrow hat;obtain⟨A6,c6,eG,-,-⟩:=hown.shape;subst eG;have Vn:=kH hown;have FU:=kH hgrow;have ZG:=kH hat;clear hown hgrow hat)
   have CJ:=kH (bT.pushed Zt.out Hn6.out Zu.out Vn.out FU.out ZG.out);obtain⟨h6,P6,Kb⟩:=lK h5 P5 Nf.out (Nat.le_succ _) FU.out;have fI:=Kb _ _ fK HRO6.out;clear Kb;rw[<- HV5.out]at HX;have hts5:(gZ E.bs E.l v3.st).1=(gZ E.bs E.l v3.st).1:=rfl;clear hts5;go_loopg [4] f (fun gk s4 wr=> ∃A n c vx ts,s4= .slice A n c/\bT wr (w.heap.size+1) (.slice A n c) n ts/\jX E.bs E.l gk vx.st ts=some (kids,q)/\n<=vx.st.k+1/\PW wr E vx/\PM E w v wr vx/\ak wr w.heap.size 24 #[.int .i64 0,.string ⟨#[]⟩,.int .i64 0,.int .i64 0,.slice none 0 0])
   case atStart=>exact⟨A6,1,c6,v5,[(gZ E.bs E.l v3.st).1],rfl,CJ.out,HX.out,by omega,h6,P6,fI⟩
   case round=>
    obtain⟨A7,n7,c7,v7,pR,rfl,vR,hx7,sP,h7,P7,fH⟩:=hrel
    cases gk with
    | zero=>simp[jX]at hx7
    | succ gk=>
     rw[jX]at hx7;have rC:=kH hx7;have K3:=kH vR;have IZ:=h7.at_;have zC:=hE.most;clear hx7 vR;obtain⟨b7,dQ⟩:∃x,bM E.bs E.l v7.st [44]=x:=⟨_,rfl⟩
     have gT:=kH dQ;clear dQ;go_wp2_with fail
     refine(gI E hE v7 [44] _ h7).mono ?_;rintro e w8 ⟨rfl,v8,eX,h8,ed⟩;rw[gT.out];have ic:=kH eX;have eB:=ed.blk h7 fH;have P8:=P7.trans ed;have nC:=kH (K3.out.keeps (ed.dZ h7));clear eX ed;cases b7
     ·have hst:v8.st=v7.st:=by
       rw[ic.out];unfold bN;rw[gT.out,if_neg (by simp)]
      have hkk:pR=kids/\v7.st=q:=by
       have:=rC.out;rw[gT.out,if_neg (by simp)]at this;simpa using this
      obtain⟨rfl,yz⟩:=hkk;have FL:=kH (hst.trans yz);clear hst yz;go_wp2_with fail
      go_meet
      exact⟨_,_,_,v8,rfl,nC.out,FL.out,h8,P8,eB⟩
     ·have hst:v8.st=aC E.l v7.st:=by
       rw[ic.out];unfold bN;rw[gT.out,if_pos rfl]
      have hnx:jX E.bs E.l gk (gZ E.bs E.l v8.st).2 (pR++[(gZ E.bs E.l v8.st).1])=some (kids,q):=by
       have:=rC.out;rw[gT.out,if_pos rfl,<- hst]at this;exact this
      have D6:v8.st.k=v7.st.k+1:=by rw[hst];rfl
      have aZ:=kH hnx;have Pg:n7<=5001:=by omega
      have Jl:=kH D6;clear hst hnx D6;go_wp2_with fail
      refine(DT E hE v8 _ h8).mono ?_;rintro e w9 ⟨k9,t9,a9,z9,A9,n9,c9,rfl,om,v9,iU,h9,gH⟩;have kL:=kH iU;have fA:=gH.blk h8 eB;have P9:=P8.trans gH;clear iU;obtain⟨zS,oK,wP,p8⟩:=nC.out.keeps (gH.dZ h8);have wQ:aF w9 (fun g=>w.heap.size+1<=g/\some g≠(Value.slice A7 n7 c7).ownBlock) _ _:=aF.weak (fun g _ hg=>⟨aac eB.lt hg,fun e1=>by obtain⟨_,hO4,_,_⟩:=nC.out;have:=(hO4.lt g e1.symm).2;omega⟩) _ _ om;have BC:(Value.slice A7 n7 c7).ownBlock≠some w.heap.size:=fun e1=>by have:=(oK.lt _ e1).1;omega
      have UI:=fA.lt;have Bj:=kH oK;have DK:=kH wP;have DL:=kH wQ;have Jf:=kH p8;have KT:=kH BC;clear oK wP wQ p8 BC om;go_wp2_with (at_builtin;go_must (refine dP _ rfl (.tmp 22) (.tmp 25) _ rfl (w.heap.size+1) 24 i0 _ 5 64 Tryz.underlying22 hi0 hz0 hz1 hz2 rfl (.slice A7 n7 c7) n7 (List.flatten zS) rfl (Bj.out.alloc _) ⟨w9.heap.size,0,none⟩ 1 1 [.int .i64 k9,.string t9,.int .i64 a9,.int .i64 z9,.slice A9 n9 c9] rfl rfl (jr _ _ _ _ _ _ _ (by go_simp) (by go_simp) (by go_simp) (by go_simp) (by go_simp)) (by simp[Value.oneCell']) (by simp only[maxLen];omega) (by omega) (by simp;omega) ?_);intro vn bJ hown hgrow hat;obtain⟨o5,c10,eG,-,-⟩:=hown.shape;subst eG;have Bi:=kH hown;have rG:=kH hgrow;have DN:=kH hat;clear hown hgrow hat)
      have rF:=kH (bT.pushed DK.out Jf.out DL.out Bi.out rG.out DN.out);obtain⟨h10,jZ,sK⟩:=lK h9 P9 Bj.out (Nat.le_succ _) rG.out;have dV:=sK _ _ fA KT.out;clear sK;go_roundg gk
      case measure=>omega
      case rel=>
       refine⟨o5,n7+1,c10,v9,pR++[(gZ E.bs E.l v8.st).1],rfl,rF.out,by rw[kL.out];exact aZ.out,?_,h10,jZ,dV⟩;have hle:=(IQ (s:=E.bs) hE.ends (p:=v8.st) (by rw[hE.len];exact h8.at_)).1;rw[kL.out];have:=Jl.out;omega
  ·have hx:([],v3.st)=(kids,q):=by
    have:=SN.out;rw[<- fU.out,HB1.out,if_pos rfl]at this;exact Option.some.inj this
   cases hx
   go_wp2_with fail
   go_meet
   exact⟨_,_,_,v3,rfl,El.out,rfl,h4,P4,fB⟩
 case rest=>
  obtain⟨Ak,nk,ck,vx,rfl,hK,GM,hx,hmx,R9⟩:=hcut;have HKx:=kH hK;have CB:=kH GM;clear hK GM;go_wp2_with fail
  refine(kR E hE vx [41] _ hx).mono ?_;rintro e mW ⟨rfl,v12,lJ,h12,iP⟩;have nK:=kH lJ;rw[CB.out]at nK;have je:=iP.blk hx R9;have mY:=hmx.trans iP;have pq:=kH (HKx.out.keeps (iP.dZ hx));clear lJ iP;go_wp2_with fail
  refine(dY E hE v12 _ h12 v.st.k 6 [] (w.heap.size+1) Ak nk ck kids pq.out).mono ?_;rintro e uC ⟨rfl,jo,qZ⟩;have qf:=h12.below jo;have lY:=je.below jo je.lt;obtain⟨⟨r0,r1,r2,r3,r4⟩,g0,g1,g2,g3,g4⟩:=lY.five;go_wp2_with fail
  have bC:=kH (bO (v:=v) qf (mY.trans (PM.of_below jo)) rfl lY hgl qZ);clear qZ;refine bodyPost_ret (v:=.agg #[.int .i64 6,.string (bI []),.int .i64 (bW E.l v12.st v.st.k kids),.int .i64 (v12.st.last:Int),.slice Ak nk ck]) (by simp[results,Tryz.results129,go_sem,r0,r1,r2,r3,r4]) rfl ?_;exact Eq.mp (congrArg (fun r=>bK E w v r _ _) (show(aI E.l v12.st v.st.k 6 [] kids,v12.st)=_ by rw[aV.out,nK.out])) bC.out
theorem Df{s:bE}{l:List jP}(he:nL l){p:PS}(hp:p.k<l.length):Le l p (jS s l p).2:=by
 have h1:=uw he hp;have h2:=h1.trans (eU (s:=s) (w:=[58]) he h1.2);unfold jS;simp only;split
 ·rename_i hb
  refine h2.trans (dS he h2.2 ?_).1;rw[Bool.or_eq_true]at hb;rcases hb with hb|hb<;>exact fF hb
 ·exact h2.trans (wI h2.2)
theorem TE(E:PE)(hE:E.Ok)(v:PV)(w:World)(hpw:PW w E v)(f:Nat)(r:aa×PS)(hr:nE E.bs E.l f v.st=some r)(h5:bP E.l v.st≠5):Calls Tryz.prog 67 #[.pointer (some ⟨E.gp,0,none⟩)] w (bK E w v r):=by
 obtain⟨i0,hi0,hz0,hz1,hz2⟩:=info_parts pF
 obtain⟨kids,q,hkq,hrq⟩:∃kids q,mf E.bs E.l f (jS E.bs E.l (aH E.bs E.l (dG E.l (aC E.l v.st)) [123])).2 [(jS E.bs E.l (aH E.bs E.l (dG E.l (aC E.l v.st)) [123])).1]=some (kids,q)/\r=(aI E.l (aH E.bs E.l q [125]) v.st.k 3 (dF E.bs E.l (aC E.l v.st)) kids,aH E.bs E.l q [125]):=by
  unfold nE at hr;simp only at hr;split at hr
  ·cases hr
  ·rename_i kids q h
   cases hr
   exact⟨kids,q,h,rfl⟩
 have SN:=kH hkq;have aV:=kH hrq;have QO:=kH h5;clear hr hkq hrq h5;have hgl:=hpw.blk.lt;have hk2:w.cell? ⟨E.gp,2,none⟩=some (.int .i64 (v.st.k:Int)):=hpw.blk.cell 2;go_enter Tryz.func67,Tryz.ntmps67
 go_wp2_with fail
 generalize hW1:w.alloc (.cells #[.int .i64 0,.string ⟨#[]⟩,.int .i64 0,.int .i64 0,.slice none 0 0] 24)=W1
 have hb1:Below w.heap.size w W1:=by rw[<- hW1];exact ae _ _
 have eP:ak W1 w.heap.size 24 #[.int .i64 0,.string ⟨#[]⟩,.int .i64 0,.int .i64 0,.slice none 0 0]:=by rw[<- hW1];exact ak.new w _ _
 have hs1:W1.heap.size=w.heap.size+1:=by rw[<- hW1];simp
 have hm1:=PM.of_below (E:=E) (v:=v) hb1;have h1:=hpw.below hb1;have P1:=hm1;have pJ:=kH hs1;have xB:=kH hm1;clear hW1 hs1 hm1 hb1;refine(qN E hE v _ h1 QO.out).mono ?_;rintro e w2 ⟨rfl,h2,hm2⟩;have hR2:=hm2.blk h1 eP;have P2:=P1.trans hm2;obtain⟨v2,hv2⟩:∃vv:PV,(⟨aC E.l v.st,v.lv⟩:PV)=vv:=⟨_,rfl⟩
 rw[hv2]at h2 P2;have iw:Hid (v2.st=aC E.l v.st):=kH (by rw[<- hv2]);clear hv2 hm2;go_wp2_with fail
 refine(tJ E hE v2 _ h2).mono ?_;rintro e w3 ⟨rfl,v3,hv3,h3,eH⟩;have fU:=kH hv3;have dD:=eH.blk h2 hR2;have P3:=P2.trans eH;clear hv3 eH;have hnt:dF E.bs E.l v2.st=dF E.bs E.l (aC E.l v.st):=by rw[iw.out]
 rw[hnt];rw[iw.out]at fU;clear hnt hk2;go_wp2_with fail
 refine(kR E hE v3 [123] _ h3).mono ?_;rintro e w4 ⟨rfl,v4,hv4,h4,iI⟩;have iY:=kH hv4;have fB:=iI.blk h3 dD;have P4:=P3.trans iI;clear hv4 iI;rw[fU.out]at iY;go_wp2_with fail
 refine(MS E hE v4 _ h4).mono ?_;rintro e w5 ⟨k5,t5,a5,z5,A5,n5,c5,rfl,jH,v5,hv5,h5,iH⟩;have HV5:=kH hv5;have fK:=iH.blk h4 fB;have P5:=P4.trans iH;replace jH:=aF.weak (Q:=fun g=>w.heap.size+1<=g) (fun g _ hg=>aac fB.lt hg) _ _ jH
 clear hv5;rw[iY.out]at HV5 jH;have hx:=SN.out;rw[<- HV5.out]at hx;have HX:=kH hx
 have hle5:v4.st.k<=v5.st.k:=by
  have:=(Df (s:=E.bs) hE.ends (p:=v4.st) (by rw[hE.len];exact h4.at_)).1;rw[HV5.out,<- iY.out];exact this
 clear hx SN;go_wp2_with fail
 have CJ:=kH (kE jH (by have:=fK.lt;omega));generalize tO:w5.alloc (.cells #[.int .i64 k5,.string t5,.int .i64 a5,.int .i64 z5,.slice A5 n5 c5] 24)=w6 at CJ⊢
 have hb6:Below w5.heap.size w5 w6:=by rw[<- tO];exact ae _ _
 have h6:=h5.below hb6;have fI:=fK.below hb6 fK.lt;have P6:=P5.trans (PM.of_below hb6);clear tO;obtain⟨fld,hfld⟩:∃x,(jS E.bs E.l (aH E.bs E.l (dG E.l (aC E.l v.st)) [123])).1=x:=⟨_,rfl⟩
 rw[hfld]at HX CJ;clear hfld;go_loopg [5] f (fun gk s5 wr=> ∃A n c vx ts,s5= .slice A n c/\bT wr (w.heap.size+1) (.slice A n c) n ts/\mf E.bs E.l gk vx.st ts=some (kids,q)/\n<=vx.st.k+1/\PW wr E vx/\PM E w v wr vx/\ak wr w.heap.size 24 #[.int .i64 0,.string ⟨#[]⟩,.int .i64 0,.int .i64 0,.slice none 0 0])
 case atStart=>exact⟨_,1,_,v5,[fld],rfl,CJ.out,HX.out,by omega,h6,P6,fI⟩
 case round=>
  obtain⟨A7,n7,c7,v7,pR,rfl,vR,hx7,sP,h7,P7,fH⟩:=hrel
  cases gk with
  | zero=>simp[mf]at hx7
  | succ gk=>
   rw[mf]at hx7;have rC:=kH hx7;have K3:=kH vR;have IZ:=h7.at_;have zC:=hE.most;clear hx7 vR;obtain⟨b7,dQ⟩:∃x,bM E.bs E.l v7.st [44]=x:=⟨_,rfl⟩
   have gT:=kH dQ;clear dQ;go_wp2_with fail
   refine(gI E hE v7 [44] _ h7).mono ?_;rintro e w8 ⟨rfl,v8,eX,h8,ed⟩;rw[gT.out];have ic:=kH eX;have eB:=ed.blk h7 fH;have P8:=P7.trans ed;have nC:=kH (K3.out.keeps (ed.dZ h7));clear eX ed;cases b7
   ·have hst:v8.st=v7.st:=by
     rw[ic.out];unfold bN;rw[gT.out,if_neg (by simp)]
    have hkk:pR=kids/\v7.st=q:=by
     have:=rC.out;rw[gT.out,if_neg (by simp)]at this;simpa using this
    obtain⟨rfl,yz⟩:=hkk;have FL:=kH (hst.trans yz);clear hst yz;go_wp2_with fail
    refine(kR E hE v8 [125] _ h8).mono ?_;rintro e mW ⟨rfl,v12,lJ,h12,iP⟩;have nK:=kH lJ;rw[FL.out]at nK;have je:=iP.blk h8 eB;have mY:=P8.trans iP;have pq:=kH (nC.out.keeps (iP.dZ h8));clear lJ iP;go_wp2_with fail
    refine(dY E hE v12 _ h12 v.st.k 3 (dF E.bs E.l (aC E.l v.st)) (w.heap.size+1) A7 n7 c7 pR pq.out).mono ?_;rintro e uC ⟨rfl,jo,qZ⟩;have qf:=h12.below jo;have lY:=je.below jo je.lt;obtain⟨⟨r0,r1,r2,r3,r4⟩,g0,g1,g2,g3,g4⟩:=lY.five;go_wp2_with fail
    have bC:=kH (bO (v:=v) qf (mY.trans (PM.of_below jo)) rfl lY hgl qZ);clear qZ;refine bodyPost_ret (v:=.agg #[.int .i64 3,.string (bI (dF E.bs E.l (aC E.l v.st))),.int .i64 (bW E.l v12.st v.st.k pR),.int .i64 (v12.st.last:Int),.slice A7 n7 c7]) (by simp[results,Tryz.results67,go_sem,r0,r1,r2,r3,r4]) rfl ?_;exact Eq.mp (congrArg (fun r=>bK E w v r _ _) (show(aI E.l v12.st v.st.k 3 (dF E.bs E.l (aC E.l v.st)) pR,v12.st)=_ by rw[aV.out,nK.out])) bC.out
   ·have hst:v8.st=aC E.l v7.st:=by
     rw[ic.out];unfold bN;rw[gT.out,if_pos rfl]
    have hnx:mf E.bs E.l gk (jS E.bs E.l v8.st).2 (pR++[(jS E.bs E.l v8.st).1])=some (kids,q):=by
     have:=rC.out;rw[gT.out,if_pos rfl,<- hst]at this;exact this
    have D6:v8.st.k=v7.st.k+1:=by rw[hst];rfl
    have aZ:=kH hnx;have Pg:n7<=5001:=by omega
    have Jl:=kH D6;clear hst hnx D6;go_wp2_with fail
    refine(MS E hE v8 _ h8).mono ?_;rintro e w9 ⟨k9,t9,a9,z9,A9,n9,c9,rfl,om,v9,iU,h9,gH⟩;have kL:=kH iU;have fA:=gH.blk h8 eB;have P9:=P8.trans gH;clear iU;obtain⟨zS,oK,wP,p8⟩:=nC.out.keeps (gH.dZ h8);have wQ:aF w9 (fun g=>w.heap.size+1<=g/\some g≠(Value.slice A7 n7 c7).ownBlock) _ _:=aF.weak (fun g _ hg=>⟨aac eB.lt hg,fun e1=>by obtain⟨_,hO4,_,_⟩:=nC.out;have:=(hO4.lt g e1.symm).2;omega⟩) _ _ om;have BC:(Value.slice A7 n7 c7).ownBlock≠some w.heap.size:=fun e1=>by have:=(oK.lt _ e1).1;omega
    have UI:=fA.lt;have Bj:=kH oK;have DK:=kH wP;have DL:=kH wQ;have Jf:=kH p8;have KT:=kH BC;clear oK wP wQ p8 BC om;go_wp2_with (at_builtin;go_must (refine dP _ rfl (.tmp 21) (.tmp 24) _ rfl (w.heap.size+1) 24 i0 _ 5 64 Tryz.underlying22 hi0 hz0 hz1 hz2 rfl (.slice A7 n7 c7) n7 (List.flatten zS) rfl (Bj.out.alloc _) ⟨w9.heap.size,0,none⟩ 1 1 [.int .i64 k9,.string t9,.int .i64 a9,.int .i64 z9,.slice A9 n9 c9] rfl rfl (jr _ _ _ _ _ _ _ (by go_simp) (by go_simp) (by go_simp) (by go_simp) (by go_simp)) (by simp[Value.oneCell']) (by simp only[maxLen];omega) (by omega) (by simp;omega) ?_);intro vn bJ hown hgrow hat;obtain⟨o5,c10,eG,-,-⟩:=hown.shape;subst eG;have Bi:=kH hown;have rG:=kH hgrow;have DN:=kH hat;clear hown hgrow hat)
    have rF:=kH (bT.pushed DK.out Jf.out DL.out Bi.out rG.out DN.out);obtain⟨h10,jZ,sK⟩:=lK h9 P9 Bj.out (Nat.le_succ _) rG.out;have dV:=sK _ _ fA KT.out;clear sK;go_roundg gk
    case measure=>omega
    case rel=>
     refine⟨o5,n7+1,c10,v9,pR++[(jS E.bs E.l v8.st).1],rfl,rF.out,by rw[kL.out];exact aZ.out,?_,h10,jZ,dV⟩;have hle:=(Df (s:=E.bs) hE.ends (p:=v8.st) (by rw[hE.len];exact h8.at_)).1;rw[kL.out];have:=Jl.out;omega
theorem Bw{s:bE}{l:List jP}(he:nL l)(hend:pM s l){f:Nat}{fn:Fn}{p:PS}{x:List aa}{q:PS}(h:aO s l f fn p=some (x,q))(hp:p.k<l.length)(hr:Xq l p fn):Le l p q/\Xo x fn/\KN s l p q fn:=by
 obtain⟨f0,x0,q0,h0,h1,h2,h3⟩:=VZ he hend _ fn p hp hr (Nat.lt_succ_self _);have e1:=F8 (Nat.le_max_left f f0) h;have e2:=F8 (Nat.le_max_right f f0) h0;rw[e1]at e2;cases e2
 exact⟨h1,h2,h3⟩
def Sm(E:PE)(w:World)(v:PV)(kids:List aa)(q:PS)(e:Ending)(w':World):Prop:=
 ∃A n c,e= .returned (.slice A n c)/\bT w' w.heap.size (.slice A n c) n kids/\zh E w v q w'
structure xR (E:PE) (f:Nat):Prop where
 expr:∀(lv:Nat) (v:PV) (w:World) (t:aa) (q:PS),PW w E v->1<=lv->lv<=7->aO E.bs E.l f (.expr lv) v.st=some ([t],q)->Calls Tryz.prog 134 #[.pointer (some ⟨E.gp,0,none⟩),.int .i64 (lv:Int)] w (bK E w v (t,q))
 operand:∀(v:PV) (w:World) (t:aa) (q:PS),PW w E v->aO E.bs E.l f .operand v.st=some ([t],q)->Calls Tryz.prog 185 #[.pointer (some ⟨E.gp,0,none⟩)] w (bK E w v (t,q))
 args:∀(v:PV) (w:World) (kids:List aa) (q:PS),PW w E v->bP E.l v.st≠5->aO E.bs E.l f .args v.st=some (kids,q)->Calls Tryz.prog 138 #[.pointer (some ⟨E.gp,0,none⟩)] w (Sm E w v kids q)
 place:∀(v:PV) (w:World) (t:aa) (q:PS),PW w E v->aO E.bs E.l f .place v.st=some ([t],q)->Calls Tryz.prog 139 #[.pointer (some ⟨E.gp,0,none⟩)] w (bK E w v (t,q))
 stmt:∀(v:PV) (w:World) (t:aa) (q:PS),PW w E v->aO E.bs E.l f .stmt v.st=some ([t],q)->Calls Tryz.prog 74 #[.pointer (some ⟨E.gp,0,none⟩)] w (bK E w v (t,q))
 block:∀(v:PV) (w:World) (t:aa) (q:PS),PW w E v->aO E.bs E.l f .block v.st=some ([t],q)->Calls Tryz.prog 131 #[.pointer (some ⟨E.gp,0,none⟩)] w (bK E w v (t,q))
 branch:∀(v:PV) (w:World) (t:aa) (q:PS),PW w E v->bP E.l v.st≠5->aO E.bs E.l f .branch v.st=some ([t],q)->Calls Tryz.prog 135 #[.pointer (some ⟨E.gp,0,none⟩)] w (bK E w v (t,q))
theorem Xh(E:PE)(hE:E.Ok)(f:Nat)(IH:∀f',f'<=f->xR E f')(v:PV)(w:World)(t:aa)(q:PS)(hpw:PW w E v)(hr:aO E.bs E.l (f+1) .block v.st=some ([t],q)):Calls Tryz.prog 131 #[.pointer (some ⟨E.gp,0,none⟩)] w (bK E w v (t,q)):=by
 obtain⟨i0,hi0,hz0,hz1,hz2⟩:=info_parts pF;rw[aO]at hr;have HR:=kH hr;have fO:=kH IH;clear hr IH;have hgl:=hpw.blk.lt;have hk2:w.cell? ⟨E.gp,2,none⟩=some (.int .i64 (v.st.k:Int)):=hpw.blk.cell 2;go_enter Tryz.func131,Tryz.ntmps131
 go_wp2_with fail
 generalize hW1:w.alloc (.cells #[.int .i64 0,.string ⟨#[]⟩,.int .i64 0,.int .i64 0,.slice none 0 0] 24)=W1
 have hb1:Below w.heap.size w W1:=by rw[<- hW1];exact ae _ _
 have eP:ak W1 w.heap.size 24 #[.int .i64 0,.string ⟨#[]⟩,.int .i64 0,.int .i64 0,.slice none 0 0]:=by rw[<- hW1];exact ak.new w _ _
 have hs1:W1.heap.size=w.heap.size+1:=by rw[<- hW1];simp
 have hm1:=PM.of_below (E:=E) (v:=v) hb1;have h1:=hpw.below hb1;have P1:=hm1;have pJ:=kH hs1;have xB:=kH hm1;clear hW1 hs1 hm1 hb1;generalize Aq:W1.alloc (.cells #[] 24)=w2
 have hb2:Below W1.heap.size W1 w2:=by rw[<- Aq];exact ae _ _
 have hK2:bT w2 (w.heap.size+1) (.slice (some ⟨w.heap.size+1,0,none⟩) 0 0) 0 []:=by
  refine⟨[],?_,rfl,rfl⟩;have hn:=ak.new W1 24 #[];rw[pJ.out,Aq]at hn;exact aP.block (n:=0) (cur:=#[]) (aab _) hn (by simp[maxLen]) rfl
 have h2:=h1.below hb2;have hR2:=eP.below hb2 eP.lt;have P2:=P1.trans (PM.of_below hb2);clear Aq;obtain⟨b0,hb0⟩:∃x,bM E.bs E.l v.st [123]=x:=⟨_,rfl⟩
 have HB0:=kH hb0;clear hb0;refine(kR E hE v [123] _ h2).mono ?_;rintro e w3 ⟨rfl,v3,hv3,h3,eH⟩;rw[HB0.out];have fU:=kH hv3;have dD:=eH.blk h2 hR2;have P3:=P2.trans eH;have gq:=kH (hK2.keeps (eH.dZ h2));clear hv3 eH hK2 hk2;cases b0
 ·have hst:v3.st=iK E.l v.st 4 [123]:=by
   rw[fU.out];unfold aH;rw[HB0.out,if_neg (by simp)]
  have aV:Hid ((t,q)=(aI E.l (iK E.l v.st 4 [123]) v.st.k 11 [] [],iK E.l v.st 4 [123])):=kH (by
   have:=HR.out;rw[HB0.out,if_neg (by simp)]at this;simp at this
   rw[<- this.1,<- this.2])
  replace fU:=kH hst
  clear hst;go_wp2_with fail
  refine(iM E hE v3 _ h3 v.st.k 11 [] (w.heap.size+1)).mono ?_;rintro e w4 ⟨rfl,hb4,lD⟩;have h4:=h3.below hb4;have fB:=dD.below hb4 dD.lt;obtain⟨⟨r0,r1,r2,r3,r4⟩,g0,g1,g2,g3,g4⟩:=fB.five;go_wp2_with fail
  have bC:=kH (bO (v:=v) h4 (P3.trans (PM.of_below hb4)) rfl fB hgl lD);clear lD;refine bodyPost_ret (v:=.agg #[.int .i64 11,.string (bI []),.int .i64 (bW E.l v3.st v.st.k []),.int .i64 (v3.st.last:Int),.slice none 0 0]) (by simp[results,Tryz.results131,go_sem,r0,r1,r2,r3,r4]) rfl ?_;exact Eq.mp (congrArg (fun r=>bK E w v r _ _) (show(aI E.l v3.st v.st.k 11 [] [],v3.st)=_ by rw[fU.out,aV.out])) bC.out
 ·have hst:v3.st=aC E.l v.st:=by
   rw[fU.out];unfold aH;rw[HB0.out,if_pos rfl]
  obtain⟨kids,q1,hx,hrq⟩:∃kids q1,aO E.bs E.l f (.qi []) v3.st=some (kids,q1)/\(t,q)=(aI E.l (aH E.bs E.l q1 [125]) v.st.k 11 [] kids,aH E.bs E.l q1 [125]):=by
   have:=HR.out;rw[HB0.out,if_pos rfl]at this;obtain⟨x,p,h1,h2⟩:=vL this;simp at h2;exact⟨x,p,by rw[hst];exact h1,by rw[<- h2.1,<- h2.2]⟩
  have HX:=kH hx;have aV:=kH hrq;clear hst hx hrq;go_wp2_with fail
  go_loopg [4] f (fun gk s4 wr=> ∃A n c vx ts,s4= .slice A n c/\bT wr (w.heap.size+1) (.slice A n c) n ts/\gk<=f/\aO E.bs E.l gk (.qi ts) vx.st=some (kids,q1)/\n<=vx.st.k/\PW wr E vx/\PM E w v wr vx/\ak wr w.heap.size 24 #[.int .i64 0,.string ⟨#[]⟩,.int .i64 0,.int .i64 0,.slice none 0 0])
  case atStart=>exact⟨_,0,_,v3,[],rfl,gq.out,aab _,HX.out,Nat.zero_le _,h3,P3,dD⟩
  case round=>
   obtain⟨A7,n7,c7,v7,pR,rfl,vR,hgf,hx7,sP,h7,P7,fH⟩:=hrel
   cases gk with
   | zero=>simp[aO]at hx7
   | succ gk=>
    rw[aO]at hx7;have rC:=kH hx7;have K3:=kH vR;have IZ:=h7.at_;have zC:=hE.most;clear hx7 vR;have hst:=L8 E hE v7 wr h7;obtain⟨b7,dQ⟩:∃x,ko E.bs E.l v7.st=x:=⟨_,rfl⟩
    rw[dQ]at hst;have gT:=kH dQ;have HST:=kH hst;clear dQ hst;go_wp2_with fail
    refine HST.out.mono ?_;rintro e w8 ⟨rfl,fJ⟩;have h8:=h7.below fJ;have eB:=fH.below fJ fH.lt;have P8:=P7.trans (PM.of_below fJ);have nC:=kH (K3.out.keeps (dB.of_below fJ));cases b7
    ·obtain⟨x9,q9,EX,hnx⟩:∃x9 q9,aO E.bs E.l gk .stmt v7.st=some ([x9],q9)/\aO E.bs E.l gk (.qi (pR++[x9])) q9=some (kids,q1):=by
      have:=rC.out;rw[gT.out,if_neg (by simp)]at this;obtain⟨x,p,h1,h2⟩:=fE this;exact⟨x,p,h1,h2⟩
     have hpr:=Bw hE.ends hE.empty EX (by rw[hE.len];exact h7.at_) trivial;have hlt:v7.st.k<q9.k:=hpr.2.2 gT.out;have hcall:=(fO.out gk (by omega)).stmt v7 w8 x9 q9 h8 EX;have jD:=kH hcall;have aZ:=kH hnx;have Pg:n7<=5001:=by omega
     clear hpr EX hcall hnx;go_wp2_with fail
     refine jD.out.mono ?_;rintro e w9 ⟨k9,t9,a9,z9,A9,n9,c9,rfl,om,v9,iU,h9,gH⟩;have kL:=kH iU;have fA:=gH.blk h8 eB;have P9:=P8.trans gH;clear iU;obtain⟨zS,oK,wP,p8⟩:=nC.out.keeps (gH.dZ h8);have wQ:aF w9 (fun g=>w.heap.size+1<=g/\some g≠(Value.slice A7 n7 c7).ownBlock) _ _:=aF.weak (fun g _ hg=>⟨aac eB.lt hg,fun e1=>by obtain⟨_,hO4,_,_⟩:=nC.out;have:=(hO4.lt g e1.symm).2;omega⟩) _ _ om;have BC:(Value.slice A7 n7 c7).ownBlock≠some w.heap.size:=fun e1=>by have:=(oK.lt _ e1).1;omega
     have UI:=fA.lt;have Bj:=kH oK;have DK:=kH wP;have DL:=kH wQ;have Jf:=kH p8;have KT:=kH BC;clear oK wP wQ p8 BC om;go_wp2_with (at_builtin;go_must (refine dP _ rfl (.tmp 19) (.tmp 22) _ rfl (w.heap.size+1) 24 i0 _ 5 64 Tryz.underlying22 hi0 hz0 hz1 hz2 rfl (.slice A7 n7 c7) n7 (List.flatten zS) rfl (Bj.out.alloc _) ⟨w9.heap.size,0,none⟩ 1 1 [.int .i64 k9,.string t9,.int .i64 a9,.int .i64 z9,.slice A9 n9 c9] rfl rfl (jr _ _ _ _ _ _ _ (by go_simp) (by go_simp) (by go_simp) (by go_simp) (by go_simp)) (by simp[Value.oneCell']) (by simp only[maxLen];omega) (by omega) (by simp;omega) ?_);intro vn bJ hown hgrow hat;obtain⟨o5,c10,eG,-,-⟩:=hown.shape;subst eG;have Bi:=kH hown;have rG:=kH hgrow;have DN:=kH hat;clear hown hgrow hat)
     have rF:=kH (bT.pushed DK.out Jf.out DL.out Bi.out rG.out DN.out);obtain⟨h10,jZ,sK⟩:=lK h9 P9 Bj.out (Nat.le_succ _) rG.out;have dV:=sK _ _ fA KT.out;clear sK;go_roundg gk
     case measure=>omega
     case rel=>
      refine⟨o5,n7+1,c10,v9,pR++[x9],rfl,rF.out,by omega,by rw[kL.out];exact aZ.out,?_,h10,jZ,dV⟩;rw[kL.out];show n7+1<=q9.k;omega
    ·have hkk:pR=kids/\v7.st=q1:=by
      have:=rC.out;rw[gT.out,if_pos rfl]at this;simpa using this
     obtain⟨rfl,yz⟩:=hkk;have FL:=kH yz;clear yz;go_wp2_with fail
     refine(kR E hE v7 [125] _ h8).mono ?_;rintro e mW ⟨rfl,v12,lJ,h12,iP⟩;have nK:=kH lJ;rw[FL.out]at nK;have je:=iP.blk h8 eB;have mY:=P8.trans iP;have pq:=kH (nC.out.keeps (iP.dZ h8));clear lJ iP;go_wp2_with fail
     refine(dY E hE v12 _ h12 v.st.k 11 [] (w.heap.size+1) A7 n7 c7 pR pq.out).mono ?_;rintro e uC ⟨rfl,jo,qZ⟩;have qf:=h12.below jo;have lY:=je.below jo je.lt;obtain⟨⟨r0,r1,r2,r3,r4⟩,g0,g1,g2,g3,g4⟩:=lY.five;go_wp2_with fail
     have bC:=kH (bO (v:=v) qf (mY.trans (PM.of_below jo)) rfl lY hgl qZ);clear qZ;refine bodyPost_ret (v:=.agg #[.int .i64 11,.string (bI []),.int .i64 (bW E.l v12.st v.st.k pR),.int .i64 (v12.st.last:Int),.slice A7 n7 c7]) (by simp[results,Tryz.results131,go_sem,r0,r1,r2,r3,r4]) rfl ?_;exact Eq.mp (congrArg (fun r=>bK E w v r _ _) (show(aI E.l v12.st v.st.k 11 [] pR,v12.st)=_ by rw[aV.out,nK.out])) bC.out
theorem Ny(E:PE)(hE:E.Ok)(f:Nat)(IH:∀f',f'<=f->xR E f')(v:PV)(w:World)(kids:List aa)(q:PS)(hpw:PW w E v)(h5:bP E.l v.st≠5)(hr:aO E.bs E.l (f+1) .args v.st=some (kids,q)):Calls Tryz.prog 138 #[.pointer (some ⟨E.gp,0,none⟩)] w (Sm E w v kids q):=by
 obtain⟨i0,hi0,hz0,hz1,hz2⟩:=info_parts pF;rw[aO]at hr;have HR:=kH hr;have fO:=kH IH;have QO:=kH h5;clear hr IH h5;go_enter Tryz.func138,Tryz.ntmps138
 go_wp2_with fail
 generalize Aq:w.alloc (.cells #[] 24)=w2
 have hb2:Below w.heap.size w w2:=by rw[<- Aq];exact ae _ _
 have hK2:bT w2 w.heap.size (.slice (some ⟨w.heap.size,0,none⟩) 0 0) 0 []:=by
  refine⟨[],?_,rfl,rfl⟩;have hn:=ak.new w 24 #[];rw[Aq]at hn;exact aP.block (n:=0) (cur:=#[]) (aab _) hn (by simp[maxLen]) rfl
 have h2:=hpw.below hb2;have P2:=PM.of_below (E:=E) (v:=v) hb2;clear Aq;refine(qN E hE v _ h2 QO.out).mono ?_;rintro e w3 ⟨rfl,h3,eH⟩;have P3:=P2.trans eH;obtain⟨v3,hv3⟩:∃vv:PV,(⟨aC E.l v.st,v.lv⟩:PV)=vv:=⟨_,rfl⟩
 rw[hv3]at h3 P3 eH;have fU:Hid (v3.st=aC E.l v.st):=kH (by rw[<- hv3]);have gq:=kH (hK2.keeps (eH.dZ h2));clear hv3 eH hK2;have his:=fun x w' (h:PW w' E v3)=>yu E hE v3 x w' h
 obtain⟨b1,hb1⟩:∃x,bM E.bs E.l v3.st [41]=x:=⟨_,rfl⟩
 have HIS:=kH his;have HB1:=kH hb1;clear his hb1;go_wp2_with fail
 refine(HIS.out [41] _ h3).mono ?_;rintro e w4 ⟨rfl,hb4⟩;rw[HB1.out];have h4:=h3.below hb4;have P4:=P3.trans (PM.of_below hb4);have El:=kH (gq.out.keeps (dB.of_below hb4));clear gq
 obtain⟨q1,hq1,hx1⟩:∃q1,q=aH E.bs E.l q1 [41]/\(if bM E.bs E.l v3.st [41] then kids=[]/\q1=v3.st else ∃x p,aO E.bs E.l f (.expr 1) v3.st=some ([x],p)/\aO E.bs E.l f (.oq [x]) p=some (kids,q1)):=by
  have:=HR.out;rw[<- fU.out,HB1.out]at this;rw[HB1.out];cases b1
  ·rw[if_neg (by simp)]at this
   obtain⟨x,p,h1,h2⟩:=fE this;obtain⟨ks,p2,h3,h4⟩:=vL h2;simp at h4;exact⟨p2,h4.2.symm,by rw[if_neg (by simp)];exact⟨x,p,h1,by rw[h3,h4.1]⟩⟩
  ·rw[if_pos rfl]at this
   injection this with this
   injection this with e1 e2
   exact⟨v3.st,e2.symm,by rw[if_pos rfl];exact⟨e1.symm,rfl⟩⟩
 have XE:=kH hq1;have M8:=kH hx1;clear hq1 hx1 HR;go_upto_if 9 with fail
 go_cut [3] (fun s3 wx=> ∃A n c vx,s3= .slice A n c/\bT wx w.heap.size (.slice A n c) n kids/\vx.st=q1/\PW wx E vx/\PM E w v wx vx)
 case first=>
  cases b1
  ·have hx:=M8.out
   rw[HB1.out,if_neg (by simp)]at hx;obtain⟨x5,p5,hx5,hxl⟩:=hx;have hcall:=(fO.out f (aab _)).expr 1 v3 w4 x5 p5 h4 (by omega) (by omega) hx5;have jD:=kH hcall;have Sr:=kH hxl;have hpr:=Bw hE.ends hE.empty hx5 (by rw[hE.len];exact h4.at_) ⟨by omega,by omega⟩;have hle:=hpr.1.1;clear hcall hxl hx5 hpr M8;go_wp2_with fail
   refine jD.out.mono ?_;rintro e w5 ⟨k5,t5,a5,z5,A5,n5,c5,rfl,jH,v5,hv5,h5,iH⟩;have HV5:=kH hv5;have P5:=P4.trans iH;clear hv5;obtain⟨Tw,BG,PQ,uD⟩:=El.out.keeps (iH.dZ h4);have PT:aF w5 (fun g=>w.heap.size<=g/\some g≠(Value.slice (some ⟨w.heap.size,0,none⟩) 0 0).ownBlock) _ _:=aF.weak (fun g _ hg=>⟨aac P4.since.size hg,fun e1=>by obtain⟨_,hO4,_,_⟩:=El.out;have:=(hO4.lt g e1.symm).2;omega⟩) _ _ jH;have hrz6:=P5.since.size;have Nf:=kH BG;have Zt:=kH PQ;have Zu:=kH PT;have Hn6:=kH uD;clear BG PQ PT uD jH;go_wp2_with (at_builtin;go_must (refine dP _ rfl (.tmp 10) (.tmp 13) _ rfl (w.heap.size) 24 i0 _ 5 64 Tryz.underlying22 hi0 hz0 hz1 hz2 rfl (.slice (some ⟨w.heap.size,0,none⟩) 0 0) 0 (List.flatten Tw) rfl (Nf.out.alloc _) ⟨w5.heap.size,0,none⟩ 1 1 [.int .i64 k5,.string t5,.int .i64 a5,.int .i64 z5,.slice A5 n5 c5] rfl rfl (jr _ _ _ _ _ _ _ (by go_simp) (by go_simp) (by go_simp) (by go_simp) (by go_simp)) (by simp[Value.oneCell']) (by simp only[maxLen];omega) (by omega) (by simp;omega) ?_);intro vn w6 hown hgrow hat;obtain⟨A6,c6,eG,-,-⟩:=hown.shape;subst eG;have Vn:=kH hown;have FU:=kH hgrow;have ZG:=kH hat;clear hown hgrow hat)
   have CJ:=kH (bT.pushed Zt.out Hn6.out Zu.out Vn.out FU.out ZG.out);obtain⟨h6,P6,Kb⟩:=lK h5 P5 Nf.out (aab _) FU.out;clear Kb;go_loopg [3] f (fun gk s3 wr=> ∃A n c vx ts,s3= .slice A n c/\bT wr w.heap.size (.slice A n c) n ts/\gk<=f/\aO E.bs E.l gk (.oq ts) vx.st=some (kids,q1)/\n<=vx.st.k+1/\PW wr E vx/\PM E w v wr vx)
   case atStart=>exact⟨A6,1,c6,v5,[x5],rfl,CJ.out,aab _,by rw[HV5.out];exact Sr.out,by omega,h6,P6⟩
   case round=>
    obtain⟨A7,n7,c7,v7,pR,rfl,vR,hgf,hx7,sP,h7,P7⟩:=hrel
    cases gk with
    | zero=>simp[aO]at hx7
    | succ gk=>
     rw[aO]at hx7;have rC:=kH hx7;have K3:=kH vR;have IZ:=h7.at_;have zC:=hE.most;clear hx7 vR;obtain⟨b7,dQ⟩:∃x,bM E.bs E.l v7.st [44]=x:=⟨_,rfl⟩
     have gT:=kH dQ;clear dQ;go_wp2_with fail
     refine(gI E hE v7 [44] _ h7).mono ?_;rintro e w8 ⟨rfl,v8,eX,h8,ed⟩;rw[gT.out];have ic:=kH eX;have P8:=P7.trans ed;have nC:=kH (K3.out.keeps (ed.dZ h7));clear eX ed;cases b7
     ·have hst:v8.st=v7.st:=by
       rw[ic.out];unfold bN;rw[gT.out,if_neg (by simp)]
      have hkk:pR=kids/\v7.st=q1:=by
       have:=rC.out;rw[gT.out,if_neg (by simp)]at this;simpa using this
      obtain⟨rfl,yz⟩:=hkk;have FL:=kH (hst.trans yz);clear hst yz;go_wp2_with fail
      go_meet
      exact⟨_,_,_,v8,rfl,nC.out,FL.out,h8,P8⟩
     ·have hst:v8.st=aC E.l v7.st:=by
       rw[ic.out];unfold bN;rw[gT.out,if_pos rfl]
      obtain⟨x9,q9,EX,hnx⟩:∃x9 q9,aO E.bs E.l gk (.expr 1) v8.st=some ([x9],q9)/\aO E.bs E.l gk (.oq (pR++[x9])) q9=some (kids,q1):=by
       have:=rC.out;rw[gT.out,if_pos rfl,<- hst]at this;exact fE this
      have D6:v8.st.k=v7.st.k+1:=by rw[hst];rfl
      have hpr:=Bw hE.ends hE.empty EX (by rw[hE.len];exact h8.at_) ⟨by omega,by omega⟩;have hlt:=hpr.1.1;have hcall:=(fO.out gk (by omega)).expr 1 v8 w8 x9 q9 h8 (by omega) (by omega) EX;have jD:=kH hcall;have aZ:=kH hnx;have Jl:=kH D6;have Pg:n7<=5001:=by omega
      clear hst hpr EX hcall hnx D6;go_wp2_with fail
      refine jD.out.mono ?_;rintro e w9 ⟨k9,t9,a9,z9,A9,n9,c9,rfl,om,v9,iU,h9,gH⟩;have kL:=kH iU;have P9:=P8.trans gH;clear iU;obtain⟨zS,oK,wP,p8⟩:=nC.out.keeps (gH.dZ h8);have wQ:aF w9 (fun g=>w.heap.size<=g/\some g≠(Value.slice A7 n7 c7).ownBlock) _ _:=aF.weak (fun g _ hg=>⟨aac P8.since.size hg,fun e1=>by obtain⟨_,hO4,_,_⟩:=nC.out;have:=(hO4.lt g e1.symm).2;omega⟩) _ _ om;have UI:=P9.since.size;have Bj:=kH oK;have DK:=kH wP;have DL:=kH wQ;have Jf:=kH p8;clear oK wP wQ p8 om;go_wp2_with (at_builtin;go_must (refine dP _ rfl (.tmp 17) (.tmp 20) _ rfl (w.heap.size) 24 i0 _ 5 64 Tryz.underlying22 hi0 hz0 hz1 hz2 rfl (.slice A7 n7 c7) n7 (List.flatten zS) rfl (Bj.out.alloc _) ⟨w9.heap.size,0,none⟩ 1 1 [.int .i64 k9,.string t9,.int .i64 a9,.int .i64 z9,.slice A9 n9 c9] rfl rfl (jr _ _ _ _ _ _ _ (by go_simp) (by go_simp) (by go_simp) (by go_simp) (by go_simp)) (by simp[Value.oneCell']) (by simp only[maxLen];omega) (by omega) (by simp;omega) ?_);intro vn bJ hown hgrow hat;obtain⟨o5,c10,eG,-,-⟩:=hown.shape;subst eG;have Bi:=kH hown;have rG:=kH hgrow;have DN:=kH hat;clear hown hgrow hat)
      have rF:=kH (bT.pushed DK.out Jf.out DL.out Bi.out rG.out DN.out);obtain⟨h10,jZ,sK⟩:=lK h9 P9 Bj.out (aab _) rG.out;clear sK;go_roundg gk
      case measure=>omega
      case rel=>
       refine⟨o5,n7+1,c10,v9,pR++[x9],rfl,rF.out,by omega,by rw[kL.out];exact aZ.out,?_,h10,jZ⟩;rw[kL.out];have:=Jl.out;show n7+1<=q9.k+1;omega
  ·have hx:=M8.out
   rw[HB1.out,if_pos rfl]at hx;obtain⟨rfl,hq⟩:=hx;have HQ:=kH hq.symm;clear hq;go_wp2_with fail
   go_meet
   exact⟨_,_,_,v3,rfl,El.out,HQ.out,h4,P4⟩
 case rest=>
  obtain⟨Ak,nk,ck,vx,rfl,hK,GM,hx,hmx⟩:=hcut;have HKx:=kH hK;have CB:=kH GM;clear hK GM;go_wp2_with fail
  refine(kR E hE vx [41] _ hx).mono ?_;rintro e mW ⟨rfl,v12,lJ,h12,iP⟩;have hst:v12.st=q:=by rw[lJ,CB.out,XE.out]
  have mY:=hmx.trans iP;have pq:=kH (HKx.out.keeps (iP.dZ hx));have HST:=kH hst;clear lJ iP hst;go_wp2_with fail
  go_ret
  exact⟨Ak,nk,ck,rfl,pq.out,v12,HST.out,h12,mY⟩
end Go.Proofs.YtoepemlnlpamlaaGreat
