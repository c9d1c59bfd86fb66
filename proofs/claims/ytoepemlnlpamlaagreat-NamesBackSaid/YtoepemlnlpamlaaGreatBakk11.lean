/- The law NamesBack holds for every text and every number: it returns true, and its arguments read as before. No condition. Part 11: Expr Operand. -/
import Derived.Test.YtoepemlnlpamlaaGreatBakk10
set_option maxRecDepth 100000
set_option maxHeartbeats 4000000
namespace Go.Proofs.YtoepemlnlpamlaaGreat
open Go.RowKit
theorem WT{s:aP}{l:List jl}{p:PS}{lv:Nat}(h:xR s l p lv=true):bG l p≠5:=by
 unfold xR at h;simp at h;exact h.1
theorem XT(E:PE)(hE:E.Ok)(f:Nat)(IH:∀f',f'<=f->xN E f')(lv:Nat)(hl3:lv≠3)(SQ:lv≠7)(hl1:1<=lv)(hlm:lv<=7)(v:PV)(w:World)(t:aa)(q:PS)(hpw:PW w E v)(hr:aJ E.bs E.l (f+1) (.expr lv) v.st=some ([t],q)):Calls Tryz.prog 134 #[.pointer (some ⟨E.gp,0,none⟩),.int .i64 (lv:Int)] w (bq E w v (t,q)):=by
 rw[aJ,if_neg hl3,if_neg SQ]at hr;obtain⟨x0,q0,hx0,hxl⟩:=ek hr;have HX0:=kH hx0;have Tv:=kH hxl;have eH:=kH IH;have HL:Hid (lv+1<=7/\1<=lv):=kH ⟨by omega,hl1⟩;have e3:((lv:Int)==3)=false:=by simp;omega
 have e7:((lv:Int)==7)=false:=by simp;omega
 have hwr:IntKind.i64.wrap ((lv:Int)+1)=((lv+1:Nat):Int):=by rw[IntWalk.i64_in _ (by omega)];omega
 obtain⟨b4,hb4⟩:∃b,decide (lv=4)=b:=⟨_,rfl⟩
 have e4:((lv:Int)==4)=b4:=by rw[<- hb4,Bool.eq_iff_iff];simp;omega
 have p9:=kH hb4;clear hr hx0 hxl IH hl3 SQ hl1 hlm hb4;have hgl:=hpw.blk.lt;have hk2:w.cell? ⟨E.gp,2,none⟩=some (.int .i64 (v.st.k:Int)):=hpw.blk.cell 2;go_enter Tryz.func134,Tryz.ntmps134
 go_wp2_with fail
 generalize hW1:w.alloc (.cells #[.int .i64 0,.string ⟨#[]⟩,.int .i64 0,.int .i64 0,.slice none 0 0] 24)=W1
 have hb1:Below w.heap.size w W1:=by rw[<- hW1];exact af _ _
 have eD:ai W1 w.heap.size 24 #[.int .i64 0,.string ⟨#[]⟩,.int .i64 0,.int .i64 0,.slice none 0 0]:=by rw[<- hW1];exact ai.new w _ _
 have hs1:W1.heap.size=w.heap.size+1:=by rw[<- hW1];simp
 have hm1:=PM.of_below (E:=E) (v:=v) hb1;have h1:=hpw.below hb1;have P1:=hm1;have nV:=kH hs1;have xq:=kH hm1;clear hW1 hs1 hm1 hb1;clear hk2;have Q5:Hid (v.st=v.st):=kH rfl;have hcall:=(eH.out f (aaD _)).expr (lv+1) v W1 x0 q0 h1 (by omega) HL.out.1 HX0.out;have HC:=kH hcall;clear hcall;go_wp2_with fail
 refine(HC.out).mono ?_;rintro e w2 ⟨k2,t2,a2,z2,A2,n2,c2,rfl,gX,v2,hv2,h2,hm2⟩;try dsimp only at hv2 gX
 have gD:=kH hv2;have hR2:=hm2.blk h1 eD;have P2:=P1.trans hm2;replace gX:=aB.weak (Q:=fun g=>w.heap.size+1<=g) (fun g _ hg=>aaE eD.lt hg) _ _ gX
 clear hv2 hm2;go_wp2_with fail
 replace gX:=aB.weak (Q:=fun g=>w.heap.size+1<=g/\g≠w2.heap.size) (fun g hg hp=>⟨hp,by omega⟩) _ _ gX
 generalize hW3:w2.alloc (.cells #[.int .i64 k2,.string t2,.int .i64 a2,.int .i64 z2,.slice A2 n2 c2] 24)=w3
 have hb3:Below w2.heap.size w2 w3:=by rw[<- hW3];exact af _ _
 have X2:gG w3 _ w2.heap.size _ (.int .i64 k2) (.string t2) (.int .i64 a2) (.int .i64 z2) (.slice A2 n2 c2):=⟨by rw[<- hW3];exact ai.new w2 _ _,aB.keeps (bO.of_below hb3) _ _ gX⟩
 have hs3:w3.heap.size=w2.heap.size+1:=by rw[<- hW3];simp
 have h3:=h2.below hb3;have df:=hR2.below hb3 hR2.lt;have P3:=P2.trans (PM.of_below hb3);obtain⟨v3,hv3⟩:∃vv,vv=v2:=⟨_,rfl⟩
 have fw:=gD;rw[<- hv3]at h3 P3 fw;try rw[<- hs3]
 clear hv3 hW3 gX hs3;have hrl:=hR2.lt;go_loopg [] f (fun gk wr=> ∃x7 k7 t7 a7 z7 A7 n7 c7 vx,gG wr (fun g=>w.heap.size+1<=g/\g≠w2.heap.size) w2.heap.size x7 (.int .i64 k7) (.string t7) (.int .i64 a7) (.int .i64 z7) (.slice A7 n7 c7)/\gk<=f/\aJ E.bs E.l gk (.qL lv v.st.k x7) vx.st=some ([t],q)/\PW wr E vx/\PM E w v wr vx/\ai wr w.heap.size 24 #[.int .i64 0,.string ⟨#[]⟩,.int .i64 0,.int .i64 0,.slice none 0 0])
 case atStart=>exact⟨x0,k2,t2,a2,z2,A2,n2,c2,v3,X2,aaD _,by rw[fw.out];exact Tv.out,h3,P3,df⟩
 case round=>
  obtain⟨x7,k7,t7,a7,z7,A7,n7,c7,v7,X7,hgf,hx7,h7,P7,ed⟩:=hrel
  cases gk with
  | zero=>simp[aJ]at hx7
  | succ gk=>
   rw[aJ]at hx7;have rf:=kH hx7;obtain⟨b,hb⟩:∃x,xR E.bs E.l v7.st lv=x:=⟨_,rfl⟩
   have HB:=kH hb;have HGF:Hid (gk<=f):=kH (by omega);clear hx7 hb hgf;go_wp2_with fail
   have kY:Hid (v7.st=v7.st):=kH rfl;refine(RH E hE v7 _ h7 kY.out lv (by have:=HL.out.1;omega) HB.out).mono ?_;rintro e w8 ⟨rfl,v8,dZ,h8,dP⟩;have fV:=kH dZ;have dW:=dP.blk h7 ed;have P8:=P7.trans dP;replace X7:=X7.pm dP h7
   clear dZ dP;cases b
   ·have hq:x7=t/\v7.st=q:=by
     have:=rf.out;rw[HB.out,if_neg (by simp)]at this;simpa using this
    obtain⟨rfl,hq⟩:=hq;rw[hq]at fV;obtain⟨⟨UJ,UH,UF,UD,UB⟩,Uy,Uw,Uu,Us,Uq⟩:=X7.1.five;have Un:=X7.1.lt;obtain⟨⟨r0,r1,r2,r3,r4⟩,g0,g1,g2,g3,g4⟩:=dW.five;clear hq;go_wp2_with fail
    have aV:=kH (bF (v:=v) h8 P8 fV.out dW hgl (aB.weak (fun g _ hp=>hp.1) _ _ X7.2));refine bodyPost_ret (v:=.agg #[.int .i64 k7,.string t7,.int .i64 a7,.int .i64 z7,.slice A7 n7 c7]) (by simp[results,Tryz.results134,go_sem,r0,r1,r2,r3,r4]) rfl ?_;exact aV.out
   ·obtain⟨x9,q9,hx,hnx⟩:∃x9 q9,aJ E.bs E.l gk (.expr (lv+1)) (ay E.l v7.st)=some ([x9],q9)/\(if lv=4 then t=aH E.l q9 v.st.k 29 (bE E.bs E.l v7.st.k) [x7,x9]/\q=q9 else aJ E.bs E.l gk (.qL lv v.st.k (aH E.l q9 v.st.k 29 (bE E.bs E.l v7.st.k) [x7,x9])) q9=some ([t],q)):=by
     have:=rf.out;rw[HB.out,if_pos rfl]at this;obtain⟨x,p,h1,h2⟩:=ek this;refine⟨x,p,h1,?_⟩;by_cases h4:lv=4
     ·rw[if_pos h4]at h2⊢
      simp at h2;exact⟨h2.1.symm,h2.2.symm⟩
     ·rw[if_neg h4]at h2⊢
      exact h2
    have HX:=kH hx;have bD:=kH hnx;clear hx hnx;go_wp2_with fail
    refine(vH E hE v8 _ h8 fV.out (WT HB.out)).mono ?_;rintro e w9 ⟨rfl,v9,iy,h9,fD⟩;have j4:=kH iy;have eQ:=fD.blk h8 dW;have P9:=P8.trans fD;replace X7:=X7.pm fD h8
    clear iy fD;have hcall:=(eH.out gk (by have:=HGF.out;omega)).expr (lv+1) v9 w9 x9 q9 h9 (by omega) HL.out.1 (by rw[j4.out];exact HX.out);have HC9:=kH hcall;clear hcall;go_wp2_with fail
    have hg9:w2.heap.size<w9.heap.size:=X7.1.lt;refine(HC9.out).mono ?_;rintro e bf ⟨k10,t10,Ae,zy,oG,n10,c10,rfl,mg,v10,fF,h10,eB⟩;try dsimp only at fF mg
    have iO:=kH fF;have dG:=eB.blk h9 eQ;have jH:=P9.trans eB;replace mg:=aB.weak (Q:=fun g=>w.heap.size+1<=g/\g≠w2.heap.size) (fun g _ hg=>⟨aaE eQ.lt hg,by omega⟩) _ _ mg
    replace X7:=X7.pm eB h9
    clear fF eB;have hsz:=jH.since.size;obtain⟨⟨UJ,UH,UF,UD,UB⟩,Uy,Uw,Uu,Us,Uq⟩:=X7.1.five;have Un:=X7.1.lt;go_wp2_with fail
    clear UJ UH UF UD UB Uy Uw Uu Us Uq Un;generalize tH:bf.alloc (.cells #[.int .i64 k10,.string t10,.int .i64 Ae,.int .i64 zy,.slice oG n10 c10] 24)=jm
    have jh:Below bf.heap.size bf jm:=by rw[<- tH];exact af _ _
    have Af:gG jm _ bf.heap.size _ (.int .i64 k10) (.string t10) (.int .i64 Ae) (.int .i64 zy) (.slice oG n10 c10):=⟨by rw[<- tH];exact ai.new bf _ _,aB.keeps (bO.of_below jh) _ _ mg⟩
    have sW:jm.heap.size=bf.heap.size+1:=by rw[<- tH];simp
    have h11:=h10.below jh;have iW:=dG.below jh dG.lt;have qZ:=jH.trans (PM.of_below jh);replace X7:=X7.below jh
    obtain⟨v11,lC⟩:∃vv,vv=v10:=⟨_,rfl⟩
    have mJ:=iO;rw[<- lC]at h11 qZ mJ;try rw[<- sW]
    clear lC tH mg sW;have hlo11:w.heap.size+1<=jm.heap.size:=by have:=iW.lt;omega
    have hg11:w2.heap.size<jm.heap.size:=X7.1.lt;have oN:=kH (yg (aB.weak (fun g _ hp=>hp.1) _ _ X7.2) (aB.weak (fun g _ hp=>hp.1) _ _ Af.2) hlo11);have ZV:=fun k x a e=>lit2P X7.2 Af.2 (P:=fun g=>w.heap.size+1<=g/\g≠w2.heap.size) ⟨hlo11,by omega⟩ k x a e
    generalize yL:jm.alloc (.cells #[.int .i64 k7,.string t7,.int .i64 a7,.int .i64 z7,.slice A7 n7 c7,.int .i64 k10,.string t10,.int .i64 Ae,.int .i64 zy,.slice oG n10 c10] 24)=mE at oN ZV⊢
    have rU:Below jm.heap.size jm mE:=by rw[<- yL];exact af _ _
    have h12:=h11.below rU;have iN:=iW.below rU iW.lt;have mG:=qZ.trans (PM.of_below rU);have ZQ:=X7.1.below rU hg11;clear yL;refine(II E hE v11 _ h12 v.st.k 29 (bE E.bs E.l v7.st.k) (w.heap.size+1) (some ⟨jm.heap.size,0,none⟩) 2 2 [x7,x9] oN.out).mono ?_;rintro e uw ⟨rfl,iV⟩;have pI:=h12.below iV;have lG:=iN.below iV iN.lt;have Fw:=mG.trans (PM.of_below iV);have ZP:=ZQ.below iV ZQ.lt;have hN13:=aB.keeps (bO.of_below iV) _ _ (ZV 29 (aU (bE E.bs E.l v7.st.k)) (bN E.l v11.st v.st.k [x7,x9]) (v11.st.last:Int));obtain⟨yx,Q0,hB14,Zu⟩:=vF pI Fw ZP (by have:=X7.1.lt;omega) (.int .i64 29) (.string (aU (bE E.bs E.l v7.st.k))) (.int .i64 (bN E.l v11.st v.st.k [x7,x9])) (.int .i64 (v11.st.last:Int)) (.slice (some ⟨jm.heap.size,0,none⟩) 2 2);have vw:=lG.keep (Zu w.heap.size _ (by omega) lG);have hN14:=aB.keeps (w':=bZ uw w2.heap.size (.int .i64 29) (.string (aU (bE E.bs E.l v7.st.k))) (.int .i64 (bN E.l v11.st v.st.k [x7,x9])) (.int .i64 (v11.st.last:Int)) (.slice (some ⟨jm.heap.size,0,none⟩) 2 2)) (fun g cs hP hc=>Zu g cs hP.2 hc) _ _ hN13;have H14:=kH yx;have PP14:=kH Q0;have HB14:=kH hB14;have HR14:=kH vw;have HN14:=kH hN14;have HV11':=kH (mJ.out.symm);obtain⟨⟨q0,q1,q2,q3,q4⟩,Gw,Gv,Gu,Gt,Gs⟩:=ZP.five;obtain⟨⟨r0,r1,r2,r3,r4⟩,g0,g1,g2,g3,g4⟩:=lG.five;have hl13:=ZP.lt;have hlr13:=lG.lt;clear yx Q0 hB14 Zu hN14 hN13 ZV ZQ vw X7 Af;cases b4
    ·have hr4:=bD.out
     rw[if_neg (of_decide_eq_false p9.out)]at hr4;have HR4:=kH hr4;clear hr4;go_wp2_with fail
     go_roundg gk
     case measure=>omega
     case rel=>exact⟨_,29,_,_,_,_,2,2,v11,⟨HB14.out,HN14.out⟩,HGF.out,by have:=HR4.out;rw[<- mJ.out]at this;exact this,H14.out,PP14.out,HR14.out⟩
    ·have hr4:=bD.out
     rw[if_pos (of_decide_eq_true p9.out)]at hr4;have HR4:=kH hr4;clear hr4;go_wp2_with fail
     have aV:=kH (bF (v:=v) H14.out PP14.out mJ.out HR14.out hgl (aB.weak (fun g _ hp=>hp.1) _ _ HN14.out));refine bodyPost_ret (v:=.agg #[.int .i64 29,.string (aU (bE E.bs E.l v7.st.k)),.int .i64 (bN E.l v11.st v.st.k [x7,x9]),.int .i64 (v11.st.last:Int),.slice (some ⟨jm.heap.size,0,none⟩) 2 2]) (by simp[results,Tryz.results134,go_sem,r0,r1,r2,r3,r4]) rfl ?_;have e1:t=aa.node 29 (aU (bE E.bs E.l v7.st.k)) (bN E.l v11.st v.st.k [x7,x9]) (v11.st.last:Int) [x7,x9]:=by rw[HR4.out.1,<- mJ.out];rfl
     rw[e1,HR4.out.2];exact aV.out
theorem Rw(E:PE)(hE:E.Ok)(v:PV)(w:World)(hpw:PW w E v){p:PS}(hst:v.st=p):Calls Tryz.prog 187 #[.pointer (some ⟨E.gp,0,none⟩)] w (bq E w v (jL E.bs E.l p)):=by
 subst hst;exact Ej E hE v w hpw
theorem Fs{s:aP}{l:List jl}(he:oQ s l){p:PS}(h:nR s l p=[40]):bG l (ay l p)≠5:=by
 intro h5;have:=he (p.k+1) h5;unfold nR at h;split at h
 ·rw[this]at h
  cases h
 ·cases h
theorem bL.low{w:World}{lo lo':Nat}{v:Value}{n:Nat}{ts:List aa}(h:bL w lo v n ts)(hl:lo'<=lo):bL w lo' v n ts:=by
 obtain⟨vals,h1,h2,h3⟩:=h;exact⟨vals,h1.mono hl,bM.weak (fun g _ hp=>⟨aaE hl hp.1,hp.2⟩) _ _ h2,h3⟩
theorem RI(E:PE)(hE:E.Ok)(f:Nat)(IH:∀f',f'<=f->xN E f')(v:PV)(w:World)(t:aa)(q:PS)(hpw:PW w E v)(hr:aJ E.bs E.l (f+1) .operand v.st=some ([t],q)):Calls Tryz.prog 185 #[.pointer (some ⟨E.gp,0,none⟩)] w (bq E w v (t,q)):=by
 rw[aJ]at hr;have HR:=kH hr;have eH:=kH IH;clear hr IH;obtain⟨i0,hi0,hz0,hz1,hz2⟩:=info_parts qp;have hgl:=hpw.blk.lt;have hk2:w.cell? ⟨E.gp,2,none⟩=some (.int .i64 (v.st.k:Int)):=hpw.blk.cell 2;obtain⟨k,hk⟩:∃x,bG E.l v.st=x:=⟨_,rfl⟩
 have HK:=kH hk;obtain⟨b1,hb1⟩:∃x,bB E.bs E.l v.st [116,114,117,101]=x:=⟨_,rfl⟩
 have HB1:=kH hb1;obtain⟨b2,hb2⟩:∃x,bB E.bs E.l v.st [102,97,108,115,101]=x:=⟨_,rfl⟩
 have HB2:=kH hb2;obtain⟨b3,hb3⟩:∃x,bB E.bs E.l v.st [91]=x:=⟨_,rfl⟩
 have HB3:=kH hb3;obtain⟨b4,hb4⟩:∃x,bB E.bs E.l v.st [108,101,110]=x:=⟨_,rfl⟩
 have p9:=kH hb4;obtain⟨b5,hb5⟩:∃x,bB E.bs E.l v.st [40]=x:=⟨_,rfl⟩
 have iQ:=kH hb5;clear hk hb1 hb2 hb3 hb4 hb5;go_enter Tryz.func185,Tryz.ntmps185
 go_wp2_with fail
 generalize hW1:w.alloc (.cells #[.int .i64 0,.string ⟨#[]⟩,.int .i64 0,.int .i64 0,.slice none 0 0] 24)=W1
 have hb1:Below w.heap.size w W1:=by rw[<- hW1];exact af _ _
 have eD:ai W1 w.heap.size 24 #[.int .i64 0,.string ⟨#[]⟩,.int .i64 0,.int .i64 0,.slice none 0 0]:=by rw[<- hW1];exact ai.new w _ _
 have hs1:W1.heap.size=w.heap.size+1:=by rw[<- hW1];simp
 have hm1:=PM.of_below (E:=E) (v:=v) hb1;have h1:=hpw.below hb1;have P1:=hm1;have nV:=kH hs1;have xq:=kH hm1;clear hW1 hs1 hm1 hb1;clear hk2;have Q5:Hid (v.st=v.st):=kH rfl;refine(vJ E hE v _ h1 Q5.out HK.out).mono ?_;rintro e w2 ⟨rfl,v2,hv2,h2,hm2⟩;have gD:=kH hv2;have hR2:=hm2.blk h1 eD;have P2:=P1.trans hm2;clear hv2 hm2;by_cases hk2:k=2
 ·subst hk2
  go_wp2_with fail
  refine(vH E hE v2 _ h2 gD.out (by rw[HK.out];decide)).mono ?_;rintro e w3 ⟨rfl,v3,hv3,h3,dR⟩;have fw:=kH hv3;have df:=dR.blk h2 hR2;have P3:=P2.trans dR;clear hv3 dR;go_wp2_with fail
  refine(KJ (aU (bE E.bs E.l v.st.k)) _ (Mr hE _)).mono ?_;rintro e w7 ⟨rfl,rfl⟩;have hdt:aU (eG (aU (bE E.bs E.l v.st.k)).data.toList)=aU (eG (bE E.bs E.l v.st.k)):=rfl;rw[hdt];clear hdt
  have aM:Hid ((t,q)=(aH E.l (ay E.l v.st) v.st.k 24 (eG (bE E.bs E.l v.st.k)) [],ay E.l v.st)):=kH (by
   have:=HR.out;rw[HK.out,if_pos rfl]at this;simp at this
   rw[<- this.1,<- this.2])
  go_wp2_with fail
  refine(ig E hE v3 _ h3 v.st.k 24 (eG (bE E.bs E.l v.st.k)) (w.heap.size+1)).mono ?_;rintro e w4 ⟨rfl,hb4,jC⟩;have h4:=h3.below hb4;have dS:=df.below hb4 df.lt;obtain⟨⟨r0,r1,r2,r3,r4⟩,g0,g1,g2,g3,g4⟩:=dS.five;go_wp2_with fail
  have aV:=kH (bF (v:=v) h4 (P3.trans (PM.of_below hb4)) rfl dS hgl jC);clear jC;refine bodyPost_ret (v:=.agg #[.int .i64 24,.string (aU (eG (bE E.bs E.l v.st.k))),.int .i64 (bN E.l v3.st v.st.k []),.int .i64 (v3.st.last:Int),.slice none 0 0]) (by simp[results,Tryz.results185,go_sem,r0,r1,r2,r3,r4]) rfl ?_;exact Eq.mp (congrArg (fun r=>bq E w v r _ _) (show(aH E.l v3.st v.st.k 24 (eG (bE E.bs E.l v.st.k)) [],v3.st)=_ by rw[fw.out,aM.out])) aV.out
 have hki:((k:Int)==2)=false:=by simp;omega
 have hkn:(k==2)=false:=by simp[hk2]
 have hR2:=HR.out;rw[if_neg (by rw[HK.out];exact hk2)]at hR2;replace HR:=kH hR2
 clear hR2 hk2;go_wp2_with fail
 refine(AB E hE v2 _ h2 gD.out [116,114,117,101] HB1.out).mono ?_;rintro e w3 ⟨rfl,v3,hv3,h3,dR⟩;have fw:=kH hv3;have df:=dR.blk h2 hR2;have P3:=P2.trans dR;clear hv3 dR;cases b1
 case true=>
  have aM:Hid ((t,q)=(aH E.l (ay E.l v.st) v.st.k 25 (bE E.bs E.l v.st.k) [],ay E.l v.st)):=kH (by
   have:=HR.out;rw[HB1.out,if_pos (by simp)]at this;simp at this
   rw[<- this.1,<- this.2])
  go_wp2_with fail
  refine(vH E hE v3 _ h3 fw.out (F4 HB1.out)).mono ?_;rintro e w4 ⟨rfl,v4,hv4,h4,gW⟩;have iU:=kH hv4;have dS:=gW.blk h3 df;have P4:=P3.trans gW;clear hv4 gW;go_wp2_with fail
  refine(ig E hE v4 _ h4 v.st.k 25 (bE E.bs E.l v.st.k) (w.heap.size+1)).mono ?_;rintro e w5 ⟨rfl,hb5,gT⟩;have h5:=h4.below hb5;have eT:=dS.below hb5 dS.lt;obtain⟨⟨r0,r1,r2,r3,r4⟩,g0,g1,g2,g3,g4⟩:=eT.five;go_wp2_with fail
  have aV:=kH (bF (v:=v) h5 (P4.trans (PM.of_below hb5)) rfl eT hgl gT);clear gT;refine bodyPost_ret (v:=.agg #[.int .i64 25,.string (aU (bE E.bs E.l v.st.k)),.int .i64 (bN E.l v4.st v.st.k []),.int .i64 (v4.st.last:Int),.slice none 0 0]) (by simp[results,Tryz.results185,go_sem,r0,r1,r2,r3,r4]) rfl ?_;exact Eq.mp (congrArg (fun r=>bq E w v r _ _) (show(aH E.l v4.st v.st.k 25 (bE E.bs E.l v.st.k) [],v4.st)=_ by rw[iU.out,aM.out])) aV.out
 go_wp2_with fail
 refine(AB E hE v3 _ h3 fw.out [102,97,108,115,101] HB2.out).mono ?_;rintro e w4 ⟨rfl,v4,hv4,h4,gW⟩;have iU:=kH hv4;have dS:=gW.blk h3 df;have P4:=P3.trans gW;clear hv4 gW;cases b2
 case true=>
  have aM:Hid ((t,q)=(aH E.l (ay E.l v.st) v.st.k 25 (bE E.bs E.l v.st.k) [],ay E.l v.st)):=kH (by
   have:=HR.out;rw[HB1.out,HB2.out,if_pos (by simp)]at this;simp at this
   rw[<- this.1,<- this.2])
  go_wp2_with fail
  refine(vH E hE v4 _ h4 iU.out (F4 HB2.out)).mono ?_;rintro e w5 ⟨rfl,v5,hv5,h5,gV⟩;have HV5:=kH hv5;have eT:=gV.blk h4 dS;have P5:=P4.trans gV;clear hv5 gV;go_wp2_with fail
  refine(ig E hE v5 _ h5 v.st.k 25 (bE E.bs E.l v.st.k) (w.heap.size+1)).mono ?_;rintro e w6 ⟨rfl,hb6,nQ⟩;have h6:=h5.below hb6;have fK:=eT.below hb6 eT.lt;obtain⟨⟨r0,r1,r2,r3,r4⟩,g0,g1,g2,g3,g4⟩:=fK.five;go_wp2_with fail
  have aV:=kH (bF (v:=v) h6 (P5.trans (PM.of_below hb6)) rfl fK hgl nQ);clear nQ;refine bodyPost_ret (v:=.agg #[.int .i64 25,.string (aU (bE E.bs E.l v.st.k)),.int .i64 (bN E.l v5.st v.st.k []),.int .i64 (v5.st.last:Int),.slice none 0 0]) (by simp[results,Tryz.results185,go_sem,r0,r1,r2,r3,r4]) rfl ?_;exact Eq.mp (congrArg (fun r=>bq E w v r _ _) (show(aH E.l v5.st v.st.k 25 (bE E.bs E.l v.st.k) [],v5.st)=_ by rw[HV5.out,aM.out])) aV.out
 have hR2:=HR.out;rw[HB1.out,HB2.out,if_neg (by simp)]at hR2;replace HR:=kH hR2
 clear hR2;go_wp2_with fail
 refine(vJ E hE v4 _ h4 iU.out HK.out).mono ?_;rintro e w5 ⟨rfl,v5,hv5,h5,gV⟩;have HV5:=kH hv5;have eT:=gV.blk h4 dS;have P5:=P4.trans gV;clear hv5 gV;by_cases hk0:k=0
 ·subst hk0
  obtain⟨x,hx⟩:∃x,nR E.bs E.l v.st=x:=⟨_,rfl⟩
  have HX:=kH hx;clear hx;go_wp2_with fail
  refine(Nn E hE v5 _ h5 HV5.out HX.out).mono ?_;rintro e w6 ⟨rfl,v6,hv6,h6,gu⟩;have kZ:=kH hv6;have fK:=gu.blk h5 eT;have P6:=P5.trans gu;clear hv6 gu;by_cases u7:x=[40]
  ·subst u7
   obtain⟨kids,q1,hy,hrq⟩:∃kids q1,aJ E.bs E.l f .args (ay E.l v.st)=some (kids,q1)/\(t,q)=(aH E.l q1 v.st.k 27 (bE E.bs E.l v.st.k) kids,q1):=by
    have:=HR.out;rw[if_pos (by rw[HK.out,HX.out];simp)]at this;obtain⟨ks,p,h1,h2⟩:=sU this;simp at h2;exact⟨ks,p,h1,by rw[<- h2.1,<- h2.2]⟩
   have HY:=kH hy;have aM:=kH hrq;have e40:aU [40]=⟨#[40]⟩:=rfl;rw[e40];clear hy hrq e40;go_wp2_with fail
   refine(vH E hE v6 _ h6 kZ.out (by rw[HK.out];decide)).mono ?_;rintro e w7 ⟨rfl,v7,hv7,h7,iM⟩;have kY:=kH hv7;have ed:=iM.blk h6 fK;have P7:=P6.trans iM;clear hv7 iM;have hcall:=(eH.out f (aaD _)).args v7 w7 kids q1 h7 (by rw[kY.out];exact Fs hE.empty HX.out) (by rw[kY.out];exact HY.out);have HC:=kH hcall;clear hcall;go_wp2_with fail
   refine HC.out.mono ?_;rintro e w8 ⟨A8,n8,c8,rfl,QF,v8,dZ,h8,dP⟩;have fV:=kH dZ;have dW:=dP.blk h7 ed;have P8:=P7.trans dP;have mH:=kH (QF.low (lo':=w.heap.size+1) ed.lt);clear dZ dP QF;go_wp2_with fail
   refine(dN E hE v8 _ h8 v.st.k 27 (bE E.bs E.l v.st.k) (w.heap.size+1) A8 n8 c8 kids mH.out).mono ?_;rintro e w9 ⟨rfl,dx,nP⟩;have h9:=h8.below dx;have eQ:=dW.below dx dW.lt;obtain⟨⟨r0,r1,r2,r3,r4⟩,g0,g1,g2,g3,g4⟩:=eQ.five;go_wp2_with fail
   have aV:=kH (bF (v:=v) h9 (P8.trans (PM.of_below dx)) rfl eQ hgl nP);clear nP;refine bodyPost_ret (v:=.agg #[.int .i64 27,.string (aU (bE E.bs E.l v.st.k)),.int .i64 (bN E.l v8.st v.st.k kids),.int .i64 (v8.st.last:Int),.slice A8 n8 c8]) (by simp[results,Tryz.results185,go_sem,r0,r1,r2,r3,r4]) rfl ?_;exact Eq.mp (congrArg (fun r=>bq E w v r _ _) (show(aH E.l v8.st v.st.k 27 (bE E.bs E.l v.st.k) kids,v8.st)=_ by rw[aM.out,fV.out])) aV.out
  ·obtain⟨wd,hwd⟩:∃y,aU x=y:=⟨_,rfl⟩
   have hwf:(wd.data.toList==[40])=false:=by rw[<- hwd];simpa [aU] using u7
   have hwf2:(wd.toList==[40])=false:=by rw[ByteArray.toList_eq];exact hwf
   rw[hwd];have hR2:=HR.out;rw[if_neg (by rw[HK.out,HX.out];simp[u7]),if_pos HK.out]at hR2;replace HR:=kH hR2
   clear hR2 hwd u7;go_wp2_with fail
   refine(vJ E hE v6 _ h6 kZ.out HK.out).mono ?_;rintro e w7 ⟨rfl,v7,hv7,h7,iM⟩;have kY:=kH hv7;have ed:=iM.blk h6 fK;have P7:=P6.trans iM;clear hv7 iM;have hcall:=(eH.out f (aaD _)).place v7 w7 t q h7 (by rw[kY.out];exact HR.out);have HC:=kH hcall;clear hcall;go_wp2_with fail
   refine(HC.out).mono ?_;rintro e w8 ⟨k8,t8,a8,z8,A8,n8,c8,rfl,pW,v8,dZ,h8,dP⟩;try dsimp only at dZ pW
   have fV:=kH dZ;have dW:=dP.blk h7 ed;have P8:=P7.trans dP;replace pW:=aB.weak (Q:=fun g=>w.heap.size+1<=g) (fun g _ hg=>aaE ed.lt hg) _ _ pW
   clear dZ dP;have aM:=trivial;obtain⟨⟨r0,r1,r2,r3,r4⟩,g0,g1,g2,g3,g4⟩:=dW.five;go_wp2_with fail
   have aV:=kH (bF (v:=v) h8 P8 rfl dW hgl pW);clear pW;rw[fV.out]at aV;refine bodyPost_ret (v:=.agg #[.int .i64 k8,.string t8,.int .i64 a8,.int .i64 z8,.slice A8 n8 c8]) (by simp[results,Tryz.results185,go_sem,r0,r1,r2,r3,r4]) rfl ?_;try rw[aM.out]
   exact aV.out
 have Vv:((k:Int)==0)=false:=by simp;omega
 have Vu:(k==0)=false:=by simp[hk0]
 have hR2:=HR.out;rw[if_neg (by rw[HK.out];simp[hk0]),if_neg (by rw[HK.out];exact hk0)]at hR2;replace HR:=kH hR2
 clear hR2 hk0;go_wp2_with fail
 refine(vJ E hE v5 _ h5 HV5.out HK.out).mono ?_;rintro e w6 ⟨rfl,v6,hv6,h6,gu⟩;have kZ:=kH hv6;have fK:=gu.blk h5 eT;have P6:=P5.trans gu;clear hv6 gu;go_wp2_with fail
 cases b3
 case true=>
  obtain⟨x8,q8,kids,q1,hx,hy,hrq⟩:∃x q8 kids q1,aJ E.bs E.l f (.expr 1) (ay E.l v.st)=some ([x],q8)/\aJ E.bs E.l f (.mM [x]) q8=some (kids,q1)/\(t,q)=(aH E.l (aG E.bs E.l q1 [93]) v.st.k 26 [] kids,aG E.bs E.l q1 [93]):=by
   have:=HR.out;rw[HB3.out,if_pos rfl]at this;obtain⟨x,p,h1,h2⟩:=ek this;obtain⟨ks,p2,h3,h4⟩:=sU h2;simp at h4;exact⟨x,p,ks,p2,h1,h3,by rw[<- h4.1,<- h4.2]⟩
  have HX:=kH hx;have HY:=kH hy;have aM:=kH hrq;clear hx hy hrq HR;refine(oM E hE v6 _ h6 kZ.out [91] HB3.out).mono ?_;rintro e w7 ⟨rfl,v7,hv7,h7,iM⟩;have kY:=kH hv7;have ed:=iM.blk h6 fK;have P7:=P6.trans iM;clear hv7 iM;have hcall:=(eH.out f (aaD _)).expr 1 v7 w7 x8 q8 h7 (by omega) (by omega) (by rw[kY.out];exact HX.out);have HC:=kH hcall;clear hcall;go_wp2_with fail
  refine(HC.out).mono ?_;rintro e w8 ⟨k8,t8,a8,z8,A8,n8,c8,rfl,pW,v8,dZ,h8,dP⟩;try dsimp only at dZ pW
  have fV:=kH dZ;have dW:=dP.blk h7 ed;have P8:=P7.trans dP;replace pW:=aB.weak (Q:=fun g=>w.heap.size+1<=g) (fun g _ hg=>aaE ed.lt hg) _ _ pW
  clear dZ dP;go_wp2_with fail
  have FE:=kH (jQ pW (by have:=dW.lt;omega));generalize qz:w8.alloc (.cells #[.int .i64 k8,.string t8,.int .i64 a8,.int .i64 z8,.slice A8 n8 c8] 24)=w9 at FE⊢
  have dx:Below w8.heap.size w8 w9:=by rw[<- qz];exact af _ _
  have h9:=h8.below dx;have eQ:=dW.below dx dW.lt;have P9:=P8.trans (PM.of_below dx);clear qz;go_loopg [6] f (fun gk s6 wr=> ∃A n c vx ts,s6= .slice A n c/\bL wr (w.heap.size+1) (.slice A n c) n ts/\gk<=f/\aJ E.bs E.l gk (.mM ts) vx.st=some (kids,q1)/\n<=vx.st.k+1/\PW wr E vx/\PM E w v wr vx/\ai wr w.heap.size 24 #[.int .i64 0,.string ⟨#[]⟩,.int .i64 0,.int .i64 0,.slice none 0 0])
  case atStart=>exact⟨_,1,_,v8,[x8],rfl,FE.out,aaD _,by rw[fV.out];exact HY.out,by omega,h9,P9,eQ⟩
  case round=>
   obtain⟨Rq,n17,c17,v17,LG,rfl,hK17,hgf,Vf,hn17,DU,K6,Ff⟩:=hrel
   cases gk with
   | zero=>simp[aJ]at Vf
   | succ gk=>
    rw[aJ]at Vf;have HX17:=kH Vf;have Ml:=kH hK17;have hat17:=DU.at_;have ze:=hE.most;clear Vf hK17;obtain⟨b7,dE⟩:∃x,bB E.bs E.l v17.st [44]=x:=⟨_,rfl⟩
    have iG:=kH dE;clear dE;go_wp2_with fail
    refine(fE E hE v17 [44] _ DU).mono ?_;rintro e w18 ⟨rfl,v18,hv18,h18,hm18⟩;rw[iG.out];have HV18:=kH hv18;have Fe:=hm18.blk DU Ff;have P18:=K6.trans hm18;have Rf:=kH (Ml.out.keeps (hm18.dL DU));clear hv18 hm18;cases b7
    ·have hst:v18.st=v17.st:=by
      rw[HV18.out];unfold bC;rw[iG.out,if_neg (by simp)]
     have hkk:LG=kids/\v17.st=q1:=by
      have:=HX17.out;rw[iG.out,if_neg (by simp)]at this;simpa using this
     obtain⟨rfl,yo⟩:=hkk;have Fz:=kH (hst.trans yo);clear hst yo;go_wp2_with fail
     refine(ky E hE v18 [93] _ h18).mono ?_;rintro e mE ⟨rfl,v12,kR,h12,ik⟩;have mW:=kH kR;rw[Fz.out]at mW;have iN:=ik.blk h18 Fe;have mG:=P18.trans ik;have oN:=kH (Rf.out.keeps (ik.dL h18));clear kR ik;go_wp2_with fail
     refine(dN E hE v12 _ h12 v.st.k 26 [] (w.heap.size+1) Rq n17 c17 LG oN.out).mono ?_;rintro e uw ⟨rfl,iV,qU⟩;have pI:=h12.below iV;have lG:=iN.below iV iN.lt;obtain⟨⟨r0,r1,r2,r3,r4⟩,g0,g1,g2,g3,g4⟩:=lG.five;go_wp2_with fail
     have aV:=kH (bF (v:=v) pI (mG.trans (PM.of_below iV)) rfl lG hgl qU);clear qU;refine bodyPost_ret (v:=.agg #[.int .i64 26,.string (aU []),.int .i64 (bN E.l v12.st v.st.k LG),.int .i64 (v12.st.last:Int),.slice Rq n17 c17]) (by simp[results,Tryz.results185,go_sem,r0,r1,r2,r3,r4]) rfl ?_;exact Eq.mp (congrArg (fun r=>bq E w v r _ _) (show(aH E.l v12.st v.st.k 26 [] LG,v12.st)=_ by rw[aM.out,mW.out])) aV.out
    ·have hst:v18.st=ay E.l v17.st:=by
      rw[HV18.out];unfold bC;rw[iG.out,if_pos rfl]
     obtain⟨x9,q9,yl,hnx⟩:∃x9 q9,aJ E.bs E.l gk (.expr 1) v18.st=some ([x9],q9)/\aJ E.bs E.l gk (.mM (LG++[x9])) q9=some (kids,q1):=by
      have:=HX17.out;rw[iG.out,if_pos rfl,<- hst]at this;exact ek this
     have DJ:v18.st.k=v17.st.k+1:=by rw[hst];rfl
     have hpr:=Az hE.ends hE.empty yl (by rw[hE.len];exact h18.at_) ⟨by omega,by omega⟩;have hlt:=hpr.1.1;have hcall:=(eH.out gk (by omega)).expr 1 v18 w18 x9 q9 h18 (by omega) (by omega) yl;have mr:=kH hcall;have bD:=kH hnx;have Ju:=kH DJ;have PU:n17<=5001:=by omega
     have HGF:Hid (gk<=f):=kH (by omega);clear hst hpr yl hcall hnx DJ;go_wp2_with fail
     refine mr.out.mono ?_;rintro e w19 ⟨k19,t19,a19,z19,A19,n19,c19,rfl,hT19,v19,hv19,h19,Zp⟩;have HV19:=kH hv19;have hR19:=Zp.blk h18 Fe;have P19:=P18.trans Zp;clear hv19;obtain⟨vals20,ZU,hTs20,hn20⟩:=Rf.out.keeps (Zp.dL h18);have hTn20:aB w19 (fun g=>w.heap.size+1<=g/\some g≠(Value.slice Rq n17 c17).ownBlock) _ _:=aB.weak (fun g _ hg=>⟨aaE Fe.lt hg,fun e1=>by obtain⟨_,hO4,_,_⟩:=Rf.out;have:=(hO4.lt g e1.symm).2;omega⟩) _ _ hT19;have hro20:(Value.slice Rq n17 c17).ownBlock≠some w.heap.size:=fun e1=>by have:=(ZU.lt _ e1).1;omega
     have hrz20:=hR19.lt;have HO20:=kH ZU;have HTs20:=kH hTs20;have HTn20:=kH hTn20;have Hn20:=kH hn20;have HRO20:=kH hro20;clear ZU hTs20 hTn20 hn20 hro20 hT19;go_wp2_with (at_builtin;go_must (refine dm _ rfl (.tmp 67) (.tmp 70) _ rfl (w.heap.size+1) 24 i0 _ 5 64 Tryz.underlying22 hi0 hz0 hz1 hz2 rfl (.slice Rq n17 c17) n17 (List.flatten vals20) rfl (HO20.out.alloc _) ⟨w19.heap.size,0,none⟩ 1 1 [.int .i64 k19,.string t19,.int .i64 a19,.int .i64 z19,.slice A19 n19 c19] rfl rfl (jB _ _ _ _ _ _ _ (by go_simp) (by go_simp) (by go_simp) (by go_simp) (by go_simp)) (by simp[Value.oneCell']) (by simp only[maxLen];omega) (by omega) (by simp;omega) ?_);intro vn w20 hown hgrow hat;obtain⟨A20,c20,kP,-,-⟩:=hown.shape;subst kP;have HOWN20:=kH hown;have TG:=kH hgrow;have HAT20:=kH hat;clear hown hgrow hat)
     have HK20:=kH (bL.pushed HTs20.out Hn20.out HTn20.out HOWN20.out TG.out HAT20.out);obtain⟨h20,P20,SS⟩:=kS h19 P19 HO20.out (Nat.le_succ _) TG.out;have hR20:=SS _ _ hR19 HRO20.out;clear SS;go_roundg gk
     case measure=>omega
     case rel=>
      refine⟨A20,n17+1,c20,v19,LG++[x9],rfl,HK20.out,HGF.out,by rw[HV19.out];exact bD.out,?_,h20,P20,hR20⟩;rw[HV19.out];have:=Ju.out;show n17+1<=q9.k+1;omega
 have hR2:=HR.out;rw[HB3.out,if_neg (by simp)]at hR2;replace HR:=kH hR2
 clear hR2;refine(qD E hE v6 _ h6 kZ.out [91] HB3.out).mono ?_;rintro e w7 ⟨rfl,v7,hv7,h7,iM⟩;have kY:=kH hv7;have ed:=iM.blk h6 fK;have P7:=P6.trans iM;clear hv7 iM;go_wp2_with fail
 cases b4
 case true=>
  have aM:Hid ((t,q)=(aH E.l (aG E.bs E.l (jL E.bs E.l (aG E.bs E.l (ay E.l v.st) [40])).2 [41]) v.st.k 23 [] [(jL E.bs E.l (aG E.bs E.l (ay E.l v.st) [40])).1],aG E.bs E.l (jL E.bs E.l (aG E.bs E.l (ay E.l v.st) [40])).2 [41])):=kH (by
   have:=HR.out;rw[p9.out,if_pos rfl]at this;simp at this
   rw[<- this.1,<- this.2])
  clear HR;refine(oM E hE v7 _ h7 kY.out [108,101,110] p9.out).mono ?_;rintro e w8 ⟨rfl,v8,dZ,h8,dP⟩;have fV:=kH dZ;have dW:=dP.blk h7 ed;have P8:=P7.trans dP;clear dZ dP;go_wp2_with fail
  refine(jV E hE v8 _ h8 fV.out [40]).mono ?_;rintro e w9 ⟨rfl,v9,iy,h9,fD⟩;have j4:=kH iy;have eQ:=fD.blk h8 dW;have P9:=P8.trans fD;clear iy fD;go_wp2_with fail
  refine(Rw E hE v9 _ h9 j4.out).mono ?_;rintro e bf ⟨k10,t10,Ae,zy,oG,n10,c10,rfl,mg,v10,fF,h10,eB⟩;try dsimp only at fF mg
  have iO:=kH fF;have dG:=eB.blk h9 eQ;have jH:=P9.trans eB;replace mg:=aB.weak (Q:=fun g=>w.heap.size+1<=g) (fun g _ hg=>aaE eQ.lt hg) _ _ mg
  clear fF eB;go_wp2_with fail
  generalize tH:bf.alloc (.cells #[.int .i64 k10,.string t10,.int .i64 Ae,.int .i64 zy,.slice oG n10 c10] 24)=jm
  have jh:Below bf.heap.size bf jm:=by rw[<- tH];exact af _ _
  have Af:gG jm _ bf.heap.size _ (.int .i64 k10) (.string t10) (.int .i64 Ae) (.int .i64 zy) (.slice oG n10 c10):=⟨by rw[<- tH];exact ai.new bf _ _,aB.keeps (bO.of_below jh) _ _ mg⟩
  have sW:jm.heap.size=bf.heap.size+1:=by rw[<- tH];simp
  have h11:=h10.below jh;have iW:=dG.below jh dG.lt;have qZ:=jH.trans (PM.of_below jh);obtain⟨v11,lC⟩:∃vv,vv=v10:=⟨_,rfl⟩
  have mJ:=iO;rw[<- lC]at h11 qZ mJ;try rw[<- sW]
  clear lC tH mg sW;refine(jV E hE v11 _ h11 mJ.out [41]).mono ?_;rintro e mE ⟨rfl,v12,kR,h12,ik⟩;have mW:=kH kR;have iN:=ik.blk h11 iW;have mG:=qZ.trans ik;replace Af:=Af.pm ik h11
  clear kR ik;obtain⟨⟨qaX10,qbX10,qcX10,qdX10,qeX10⟩,qgX10,qhX10,qiX10,qjX10,qkX10⟩:=Af.1.five;have qlX10:=Af.1.lt;go_wp2_with fail
  clear qaX10 qbX10 qcX10 qdX10 qeX10 qgX10 qhX10 qiX10 qjX10 qkX10 qlX10;have Rh:=kH (jQ Af.2 (by have:=iN.lt;omega));generalize Qu:mE.alloc (.cells #[.int .i64 k10,.string t10,.int .i64 Ae,.int .i64 zy,.slice oG n10 c10] 24)=uw at Rh⊢
  have iV:Below mE.heap.size mE uw:=by rw[<- Qu];exact af _ _
  have pI:=h12.below iV;have lG:=iN.below iV iN.lt;have Fw:=mG.trans (PM.of_below iV);obtain⟨v13,yH⟩:∃vv,vv=v12:=⟨_,rfl⟩
  have Dp:=mW;rw[<- yH]at pI Fw Dp;clear yH Qu;refine(dN E hE v13 _ pI v.st.k 23 [] (w.heap.size+1) (some ⟨mE.heap.size,0,none⟩) 1 1 [(jL E.bs E.l (aG E.bs E.l (ay E.l v.st) [40])).1] Rh.out).mono ?_;rintro e wY ⟨rfl,lD,zS⟩;have yx:=pI.below lD;have vw:=lG.below lD lG.lt;obtain⟨⟨r0,r1,r2,r3,r4⟩,g0,g1,g2,g3,g4⟩:=vw.five;go_wp2_with fail
  have aV:=kH (bF (v:=v) yx (Fw.trans (PM.of_below lD)) rfl vw hgl zS);clear zS;refine bodyPost_ret (v:=.agg #[.int .i64 23,.string (aU []),.int .i64 (bN E.l v13.st v.st.k [(jL E.bs E.l (aG E.bs E.l (ay E.l v.st) [40])).1]),.int .i64 (v13.st.last:Int),.slice (some ⟨mE.heap.size,0,none⟩) 1 1]) (by simp[results,Tryz.results185,go_sem,r0,r1,r2,r3,r4]) rfl ?_;exact Eq.mp (congrArg (fun r=>bq E w v r _ _) (show(aH E.l v13.st v.st.k 23 [] [(jL E.bs E.l (aG E.bs E.l (ay E.l v.st) [40])).1],v13.st)=_ by rw[aM.out,Dp.out])) aV.out
 have hR2:=HR.out;rw[p9.out,if_neg (by simp)]at hR2;replace HR:=kH hR2
 clear hR2;refine(qD E hE v7 _ h7 kY.out [108,101,110] p9.out).mono ?_;rintro e w8 ⟨rfl,v8,dZ,h8,dP⟩;have fV:=kH dZ;have dW:=dP.blk h7 ed;have P8:=P7.trans dP;clear dZ dP;go_wp2_with fail
 cases b5
 case true=>
  obtain⟨x9,q9,hx,hrq⟩:∃x q1,aJ E.bs E.l f (.expr 1) (ay E.l v.st)=some ([x],q1)/\(t,q)=(x,aG E.bs E.l q1 [41]):=by
   have:=HR.out;rw[iQ.out,if_pos rfl]at this;obtain⟨x,p,h1,h2⟩:=ek this;simp at h2;exact⟨x,p,h1,by rw[<- h2.1,<- h2.2]⟩
  have HX:=kH hx;have aM:=kH hrq;clear hx hrq HR;refine(oM E hE v8 _ h8 fV.out [40] iQ.out).mono ?_;rintro e w9 ⟨rfl,v9,iy,h9,fD⟩;have j4:=kH iy;have eQ:=fD.blk h8 dW;have P9:=P8.trans fD;clear iy fD;have hcall:=(eH.out f (aaD _)).expr 1 v9 w9 x9 q9 h9 (by omega) (by omega) (by rw[j4.out];exact HX.out);have HC:=kH hcall;clear hcall;go_wp2_with fail
  refine(HC.out).mono ?_;rintro e bf ⟨k10,t10,Ae,zy,oG,n10,c10,rfl,mg,v10,fF,h10,eB⟩;try dsimp only at fF mg
  have iO:=kH fF;have dG:=eB.blk h9 eQ;have jH:=P9.trans eB;replace mg:=aB.weak (Q:=fun g=>w.heap.size+1<=g) (fun g _ hg=>aaE eQ.lt hg) _ _ mg
  clear fF eB;go_wp2_with fail
  generalize tH:bf.alloc (.cells #[.int .i64 k10,.string t10,.int .i64 Ae,.int .i64 zy,.slice oG n10 c10] 24)=jm
  have jh:Below bf.heap.size bf jm:=by rw[<- tH];exact af _ _
  have Af:gG jm _ bf.heap.size _ (.int .i64 k10) (.string t10) (.int .i64 Ae) (.int .i64 zy) (.slice oG n10 c10):=⟨by rw[<- tH];exact ai.new bf _ _,aB.keeps (bO.of_below jh) _ _ mg⟩
  have sW:jm.heap.size=bf.heap.size+1:=by rw[<- tH];simp
  have h11:=h10.below jh;have iW:=dG.below jh dG.lt;have qZ:=jH.trans (PM.of_below jh);obtain⟨v11,lC⟩:∃vv,vv=v10:=⟨_,rfl⟩
  have mJ:=iO;rw[<- lC]at h11 qZ mJ;try rw[<- sW]
  clear lC tH mg sW;refine(jV E hE v11 _ h11 mJ.out [41]).mono ?_;rintro e mE ⟨rfl,v12,kR,h12,ik⟩;have mW:=kH kR;have iN:=ik.blk h11 iW;have mG:=qZ.trans ik;replace Af:=Af.pm ik h11
  clear kR ik;obtain⟨⟨qaX10,qbX10,qcX10,qdX10,qeX10⟩,qgX10,qhX10,qiX10,qjX10,qkX10⟩:=Af.1.five;have qlX10:=Af.1.lt;obtain⟨⟨r0,r1,r2,r3,r4⟩,g0,g1,g2,g3,g4⟩:=iN.five;go_wp2_with fail
  have aV:=kH (bF (v:=v) h12 mG mW.out iN hgl Af.2);refine bodyPost_ret (v:=.agg #[.int .i64 k10,.string t10,.int .i64 Ae,.int .i64 zy,.slice oG n10 c10]) (by simp[results,Tryz.results185,go_sem,r0,r1,r2,r3,r4]) rfl ?_;rw[aM.out];exact aV.out
 have aM:Hid ((t,q)=(aH E.l (gZ E.l v.st 5 []) v.st.k 1 [] [],gZ E.l v.st 5 [])):=kH (by
  have:=HR.out;rw[iQ.out,if_neg (by simp)]at this;simp at this
  rw[<- this.1,<- this.2])
 clear HR;refine(qD E hE v8 _ h8 fV.out [40] iQ.out).mono ?_;rintro e w9 ⟨rfl,v9,iy,h9,fD⟩;have j4:=kH iy;have eQ:=fD.blk h8 dW;have P9:=P8.trans fD;clear iy fD;go_wp2_with fail
 refine(MK E hE v9 _ h9 j4.out 5 []).mono ?_;rintro e bf ⟨⟨u10,rfl⟩,v10,fF,h10,eB⟩;have iO:=kH fF;have dG:=eB.blk h9 eQ;have jH:=P9.trans eB;clear fF eB;go_wp2_with fail
 refine(ig E hE v10 _ h10 v.st.k 1 [] (w.heap.size+1)).mono ?_;rintro e jm ⟨rfl,jh,nG⟩;have h11:=h10.below jh;have iW:=dG.below jh dG.lt;obtain⟨⟨r0,r1,r2,r3,r4⟩,g0,g1,g2,g3,g4⟩:=iW.five;go_wp2_with fail
 have aV:=kH (bF (v:=v) h11 (jH.trans (PM.of_below jh)) rfl iW hgl nG);clear nG;refine bodyPost_ret (v:=.agg #[.int .i64 1,.string (aU []),.int .i64 (bN E.l v10.st v.st.k []),.int .i64 (v10.st.last:Int),.slice none 0 0]) (by simp[results,Tryz.results185,go_sem,r0,r1,r2,r3,r4]) rfl ?_;exact Eq.mp (congrArg (fun r=>bq E w v r _ _) (show(aH E.l v10.st v.st.k 1 [] [],v10.st)=_ by rw[iO.out,aM.out])) aV.out
end Go.Proofs.YtoepemlnlpamlaaGreat
