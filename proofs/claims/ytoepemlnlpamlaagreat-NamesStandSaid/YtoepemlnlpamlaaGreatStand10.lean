/- The law NamesStand holds: for every text and every number the law returns true, and its arguments read as before. No condition. Part 10: Expr Operand. -/
import Derived.Test.YtoepemlnlpamlaaGreatStand09
set_option maxRecDepth 100000
set_option maxHeartbeats 4000000
namespace Go.Proofs.YtoepemlnlpamlaaGreat
open Go.RowKit
theorem V6{s:bE}{l:List jP}{p:PS}{lv:Nat}(h:xX s l p lv=true):bP l p≠5:=by
 unfold xX at h;simp at h;exact h.1
theorem WY(E:PE)(hE:E.Ok)(f:Nat)(IH:∀f',f'<=f->xR E f')(lv:Nat)(hl3:lv≠3)(RX:lv≠7)(hl1:1<=lv)(hlm:lv<=7)(v:PV)(w:World)(t:aa)(q:PS)(hpw:PW w E v)(hr:aO E.bs E.l (f+1) (.expr lv) v.st=some ([t],q)):Calls Tryz.prog 134 #[.pointer (some ⟨E.gp,0,none⟩),.int .i64 (lv:Int)] w (bK E w v (t,q)):=by
 rw[aO,if_neg hl3,if_neg RX]at hr;obtain⟨x0,q0,hx0,hxl⟩:=fE hr;have HX0:=kH hx0;have Sr:=kH hxl;have fO:=kH IH;have HL:Hid (lv+1<=7/\1<=lv):=kH ⟨by omega,hl1⟩;have e3:((lv:Int)==3)=false:=by simp;omega
 have e7:((lv:Int)==7)=false:=by simp;omega
 have hwr:IntKind.i64.wrap ((lv:Int)+1)=((lv+1:Nat):Int):=by rw[IntWalk.i64_in _ (by omega)];omega
 obtain⟨b4,hb4⟩:∃b,decide (lv=4)=b:=⟨_,rfl⟩
 have e4:((lv:Int)==4)=b4:=by rw[<- hb4,Bool.eq_iff_iff];simp;omega
 have pK:=kH hb4;clear hr hx0 hxl IH hl3 RX hl1 hlm hb4;have hgl:=hpw.blk.lt;have hk2:w.cell? ⟨E.gp,2,none⟩=some (.int .i64 (v.st.k:Int)):=hpw.blk.cell 2;go_enter Tryz.func134,Tryz.ntmps134
 go_wp2_with fail
 generalize hW1:w.alloc (.cells #[.int .i64 0,.string ⟨#[]⟩,.int .i64 0,.int .i64 0,.slice none 0 0] 24)=W1
 have hb1:Below w.heap.size w W1:=by rw[<- hW1];exact ae _ _
 have eP:ak W1 w.heap.size 24 #[.int .i64 0,.string ⟨#[]⟩,.int .i64 0,.int .i64 0,.slice none 0 0]:=by rw[<- hW1];exact ak.new w _ _
 have hs1:W1.heap.size=w.heap.size+1:=by rw[<- hW1];simp
 have hm1:=PM.of_below (E:=E) (v:=v) hb1;have h1:=hpw.below hb1;have P1:=hm1;have pJ:=kH hs1;have xB:=kH hm1;clear hW1 hs1 hm1 hb1;clear hk2;have QD:Hid (v.st=v.st):=kH rfl;have hcall:=(fO.out f (aab _)).expr (lv+1) v W1 x0 q0 h1 (by omega) HL.out.1 HX0.out;have HC:=kH hcall;clear hcall;go_wp2_with fail
 refine(HC.out).mono ?_;rintro e w2 ⟨k2,t2,a2,z2,A2,n2,c2,rfl,mP,v2,hv2,h2,hm2⟩;try dsimp only at hv2 mP
 have iw:=kH hv2;have hR2:=hm2.blk h1 eP;have P2:=P1.trans hm2;replace mP:=aF.weak (Q:=fun g=>w.heap.size+1<=g) (fun g _ hg=>aac eP.lt hg) _ _ mP
 clear hv2 hm2;go_wp2_with fail
 replace mP:=aF.weak (Q:=fun g=>w.heap.size+1<=g/\g≠w2.heap.size) (fun g hg hp=>⟨hp,by omega⟩) _ _ mP
 generalize hW3:w2.alloc (.cells #[.int .i64 k2,.string t2,.int .i64 a2,.int .i64 z2,.slice A2 n2 c2] 24)=w3
 have hb3:Below w2.heap.size w2 w3:=by rw[<- hW3];exact ae _ _
 have X2:iA w3 _ w2.heap.size _ (.int .i64 k2) (.string t2) (.int .i64 a2) (.int .i64 z2) (.slice A2 n2 c2):=⟨by rw[<- hW3];exact ak.new w2 _ _,aF.keeps (dB.of_below hb3) _ _ mP⟩
 have hs3:w3.heap.size=w2.heap.size+1:=by rw[<- hW3];simp
 have h3:=h2.below hb3;have dD:=hR2.below hb3 hR2.lt;have P3:=P2.trans (PM.of_below hb3);obtain⟨v3,hv3⟩:∃vv,vv=v2:=⟨_,rfl⟩
 have fU:=iw;rw[<- hv3]at h3 P3 fU;try rw[<- hs3]
 clear hv3 hW3 mP hs3;have hrl:=hR2.lt;go_loopg [] f (fun gk wr=> ∃x7 k7 t7 a7 z7 A7 n7 c7 vx,iA wr (fun g=>w.heap.size+1<=g/\g≠w2.heap.size) w2.heap.size x7 (.int .i64 k7) (.string t7) (.int .i64 a7) (.int .i64 z7) (.slice A7 n7 c7)/\gk<=f/\aO E.bs E.l gk (.sS lv v.st.k x7) vx.st=some ([t],q)/\PW wr E vx/\PM E w v wr vx/\ak wr w.heap.size 24 #[.int .i64 0,.string ⟨#[]⟩,.int .i64 0,.int .i64 0,.slice none 0 0])
 case atStart=>exact⟨x0,k2,t2,a2,z2,A2,n2,c2,v3,X2,aab _,by rw[fU.out];exact Sr.out,h3,P3,dD⟩
 case round=>
  obtain⟨x7,k7,t7,a7,z7,A7,n7,c7,v7,X7,hgf,hx7,h7,P7,fH⟩:=hrel
  cases gk with
  | zero=>simp[aO]at hx7
  | succ gk=>
   rw[aO]at hx7;have rC:=kH hx7;obtain⟨b,hb⟩:∃x,xX E.bs E.l v7.st lv=x:=⟨_,rfl⟩
   have HB:=kH hb;have HGF:Hid (gk<=f):=kH (by omega);clear hx7 hb hgf;go_wp2_with fail
   have lT:Hid (v7.st=v7.st):=kH rfl;refine(Q8 E hE v7 _ h7 lT.out lv (by have:=HL.out.1;omega) HB.out).mono ?_;rintro e w8 ⟨rfl,v8,eX,h8,ed⟩;have ic:=kH eX;have eB:=ed.blk h7 fH;have P8:=P7.trans ed;replace X7:=X7.pm ed h7
   clear eX ed;cases b
   ·have hq:x7=t/\v7.st=q:=by
     have:=rC.out;rw[HB.out,if_neg (by simp)]at this;simpa using this
    obtain⟨rfl,hq⟩:=hq;rw[hq]at ic;obtain⟨⟨Ua,TZ,TW,TU,TS⟩,TQ,TN,TL,TJ,TH⟩:=X7.1.five;have TF:=X7.1.lt;obtain⟨⟨r0,r1,r2,r3,r4⟩,g0,g1,g2,g3,g4⟩:=eB.five;clear hq;go_wp2_with fail
    have bC:=kH (bO (v:=v) h8 P8 ic.out eB hgl (aF.weak (fun g _ hp=>hp.1) _ _ X7.2));refine bodyPost_ret (v:=.agg #[.int .i64 k7,.string t7,.int .i64 a7,.int .i64 z7,.slice A7 n7 c7]) (by simp[results,Tryz.results134,go_sem,r0,r1,r2,r3,r4]) rfl ?_;exact bC.out
   ·obtain⟨x9,q9,hx,hnx⟩:∃x9 q9,aO E.bs E.l gk (.expr (lv+1)) (aC E.l v7.st)=some ([x9],q9)/\(if lv=4 then t=aI E.l q9 v.st.k 29 (bR E.bs E.l v7.st.k) [x7,x9]/\q=q9 else aO E.bs E.l gk (.sS lv v.st.k (aI E.l q9 v.st.k 29 (bR E.bs E.l v7.st.k) [x7,x9])) q9=some ([t],q)):=by
     have:=rC.out;rw[HB.out,if_pos rfl]at this;obtain⟨x,p,h1,h2⟩:=fE this;refine⟨x,p,h1,?_⟩;by_cases h4:lv=4
     ·rw[if_pos h4]at h2⊢
      simp at h2;exact⟨h2.1.symm,h2.2.symm⟩
     ·rw[if_neg h4]at h2⊢
      exact h2
    have HX:=kH hx;have aZ:=kH hnx;clear hx hnx;go_wp2_with fail
    refine(vJ E hE v8 _ h8 ic.out (V6 HB.out)).mono ?_;rintro e w9 ⟨rfl,v9,iU,h9,gH⟩;have kL:=kH iU;have fA:=gH.blk h8 eB;have P9:=P8.trans gH;replace X7:=X7.pm gH h8
    clear iU gH;have hcall:=(fO.out gk (by have:=HGF.out;omega)).expr (lv+1) v9 w9 x9 q9 h9 (by omega) HL.out.1 (by rw[kL.out];exact HX.out);have HC9:=kH hcall;clear hcall;go_wp2_with fail
    have hg9:w2.heap.size<w9.heap.size:=X7.1.lt;refine(HC9.out).mono ?_;rintro e bJ ⟨k10,t10,Ba,zP,o5,n10,c10,rfl,mQ,v10,gL,h10,fw⟩;try dsimp only at gL mQ
    have jf:=kH gL;have dV:=fw.blk h9 fA;have jZ:=P9.trans fw;replace mQ:=aF.weak (Q:=fun g=>w.heap.size+1<=g/\g≠w2.heap.size) (fun g _ hg=>⟨aac fA.lt hg,by omega⟩) _ _ mQ
    replace X7:=X7.pm fw h9
    clear gL fw;have hsz:=jZ.since.size;obtain⟨⟨Ua,TZ,TW,TU,TS⟩,TQ,TN,TL,TJ,TH⟩:=X7.1.five;have TF:=X7.1.lt;go_wp2_with fail
    clear Ua TZ TW TU TS TQ TN TL TJ TH TF;generalize tQ:bJ.alloc (.cells #[.int .i64 k10,.string t10,.int .i64 Ba,.int .i64 zP,.slice o5 n10 c10] 24)=jF
    have jC:Below bJ.heap.size bJ jF:=by rw[<- tQ];exact ae _ _
    have Bb:iA jF _ bJ.heap.size _ (.int .i64 k10) (.string t10) (.int .i64 Ba) (.int .i64 zP) (.slice o5 n10 c10):=⟨by rw[<- tQ];exact ak.new bJ _ _,aF.keeps (dB.of_below jC) _ _ mQ⟩
    have sN:jF.heap.size=bJ.heap.size+1:=by rw[<- tQ];simp
    have h11:=h10.below jC;have jq:=dV.below jC dV.lt;have rA:=jZ.trans (PM.of_below jC);replace X7:=X7.below jC
    obtain⟨v11,lW⟩:∃vv,vv=v10:=⟨_,rfl⟩
    have ni:=jf;rw[<- lW]at h11 rA ni;try rw[<- sN]
    clear lW tQ mQ sN;have hlo11:w.heap.size+1<=jF.heap.size:=by have:=jq.lt;omega
    have hg11:w2.heap.size<jF.heap.size:=X7.1.lt;have pq:=kH (yo (aF.weak (fun g _ hp=>hp.1) _ _ X7.2) (aF.weak (fun g _ hp=>hp.1) _ _ Bb.2) hlo11);have Zc:=fun k x a e=>lit2P X7.2 Bb.2 (P:=fun g=>w.heap.size+1<=g/\g≠w2.heap.size) ⟨hlo11,by omega⟩ k x a e
    generalize yX:jF.alloc (.cells #[.int .i64 k7,.string t7,.int .i64 a7,.int .i64 z7,.slice A7 n7 c7,.int .i64 k10,.string t10,.int .i64 Ba,.int .i64 zP,.slice o5 n10 c10] 24)=mW at pq Zc⊢
    have r9:Below jF.heap.size jF mW:=by rw[<- yX];exact ae _ _
    have h12:=h11.below r9;have je:=jq.below r9 jq.lt;have mY:=rA.trans (PM.of_below r9);have Y9:=X7.1.below r9 hg11;clear yX;refine(IL E hE v11 _ h12 v.st.k 29 (bR E.bs E.l v7.st.k) (w.heap.size+1) (some ⟨jF.heap.size,0,none⟩) 2 2 [x7,x9] pq.out).mono ?_;rintro e uC ⟨rfl,jo⟩;have qf:=h12.below jo;have lY:=je.below jo je.lt;have FJ:=mY.trans (PM.of_below jo);have Y8:=Y9.below jo Y9.lt;have hN13:=aF.keeps (dB.of_below jo) _ _ (Zc 29 (bI (bR E.bs E.l v7.st.k)) (bW E.l v11.st v.st.k [x7,x9]) (v11.st.last:Int));obtain⟨yE,Qx,hB14,YI⟩:=vI qf FJ Y8 (by have:=X7.1.lt;omega) (.int .i64 29) (.string (bI (bR E.bs E.l v7.st.k))) (.int .i64 (bW E.l v11.st v.st.k [x7,x9])) (.int .i64 (v11.st.last:Int)) (.slice (some ⟨jF.heap.size,0,none⟩) 2 2);have vw:=lY.keep (YI w.heap.size _ (by omega) lY);have hN14:=aF.keeps (w':=bZ uC w2.heap.size (.int .i64 29) (.string (bI (bR E.bs E.l v7.st.k))) (.int .i64 (bW E.l v11.st v.st.k [x7,x9])) (.int .i64 (v11.st.last:Int)) (.slice (some ⟨jF.heap.size,0,none⟩) 2 2)) (fun g cs hP hc=>YI g cs hP.2 hc) _ _ hN13;have H14:=kH yE;have PP14:=kH Qx;have HB14:=kH hB14;have HR14:=kH vw;have HN14:=kH hN14;have HV11':=kH (ni.out.symm);obtain⟨⟨q0,q1,q2,q3,q4⟩,Gx,Gw,Gv,Gu,Gt⟩:=Y8.five;obtain⟨⟨r0,r1,r2,r3,r4⟩,g0,g1,g2,g3,g4⟩:=lY.five;have hl13:=Y8.lt;have hlr13:=lY.lt;clear yE Qx hB14 YI hN14 hN13 Zc Y9 vw X7 Bb;cases b4
    ·have hr4:=aZ.out
     rw[if_neg (of_decide_eq_false pK.out)]at hr4;have HR4:=kH hr4;clear hr4;go_wp2_with fail
     go_roundg gk
     case measure=>omega
     case rel=>exact⟨_,29,_,_,_,_,2,2,v11,⟨HB14.out,HN14.out⟩,HGF.out,by have:=HR4.out;rw[<- ni.out]at this;exact this,H14.out,PP14.out,HR14.out⟩
    ·have hr4:=aZ.out
     rw[if_pos (of_decide_eq_true pK.out)]at hr4;have HR4:=kH hr4;clear hr4;go_wp2_with fail
     have bC:=kH (bO (v:=v) H14.out PP14.out ni.out HR14.out hgl (aF.weak (fun g _ hp=>hp.1) _ _ HN14.out));refine bodyPost_ret (v:=.agg #[.int .i64 29,.string (bI (bR E.bs E.l v7.st.k)),.int .i64 (bW E.l v11.st v.st.k [x7,x9]),.int .i64 (v11.st.last:Int),.slice (some ⟨jF.heap.size,0,none⟩) 2 2]) (by simp[results,Tryz.results134,go_sem,r0,r1,r2,r3,r4]) rfl ?_;have e1:t=aa.node 29 (bI (bR E.bs E.l v7.st.k)) (bW E.l v11.st v.st.k [x7,x9]) (v11.st.last:Int) [x7,x9]:=by rw[HR4.out.1,<- ni.out];rfl
     rw[e1,HR4.out.2];exact bC.out
theorem Q0(E:PE)(hE:E.Ok)(v:PV)(w:World)(hpw:PW w E v){p:PS}(hst:v.st=p):Calls Tryz.prog 187 #[.pointer (some ⟨E.gp,0,none⟩)] w (bK E w v (kW E.bs E.l p)):=by
 subst hst;exact Ew E hE v w hpw
theorem FE{s:bE}{l:List jP}(he:pM s l){p:PS}(h:oo s l p=[40]):bP l (aC l p)≠5:=by
 intro h5;have:=he (p.k+1) h5;unfold oo at h;split at h
 ·rw[this]at h
  cases h
 ·cases h
theorem bT.low{w:World}{lo lo':Nat}{v:Value}{n:Nat}{ts:List aa}(h:bT w lo v n ts)(hl:lo'<=lo):bT w lo' v n ts:=by
 obtain⟨vals,h1,h2,h3⟩:=h;exact⟨vals,h1.mono hl,bV.weak (fun g _ hp=>⟨aac hl hp.1,hp.2⟩) _ _ h2,h3⟩
theorem Q9(E:PE)(hE:E.Ok)(f:Nat)(IH:∀f',f'<=f->xR E f')(v:PV)(w:World)(t:aa)(q:PS)(hpw:PW w E v)(hr:aO E.bs E.l (f+1) .operand v.st=some ([t],q)):Calls Tryz.prog 185 #[.pointer (some ⟨E.gp,0,none⟩)] w (bK E w v (t,q)):=by
 rw[aO]at hr;have HR:=kH hr;have fO:=kH IH;clear hr IH;obtain⟨i0,hi0,hz0,hz1,hz2⟩:=info_parts pF;have hgl:=hpw.blk.lt;have hk2:w.cell? ⟨E.gp,2,none⟩=some (.int .i64 (v.st.k:Int)):=hpw.blk.cell 2;obtain⟨k,hk⟩:∃x,bP E.l v.st=x:=⟨_,rfl⟩
 have HK:=kH hk;obtain⟨b1,hb1⟩:∃x,bM E.bs E.l v.st [116,114,117,101]=x:=⟨_,rfl⟩
 have HB1:=kH hb1;obtain⟨b2,hb2⟩:∃x,bM E.bs E.l v.st [102,97,108,115,101]=x:=⟨_,rfl⟩
 have HB2:=kH hb2;obtain⟨b3,hb3⟩:∃x,bM E.bs E.l v.st [91]=x:=⟨_,rfl⟩
 have HB3:=kH hb3;obtain⟨b4,hb4⟩:∃x,bM E.bs E.l v.st [108,101,110]=x:=⟨_,rfl⟩
 have pK:=kH hb4;obtain⟨b5,hb5⟩:∃x,bM E.bs E.l v.st [40]=x:=⟨_,rfl⟩
 have fT:=kH hb5;clear hk hb1 hb2 hb3 hb4 hb5;go_enter Tryz.func185,Tryz.ntmps185
 go_wp2_with fail
 generalize hW1:w.alloc (.cells #[.int .i64 0,.string ⟨#[]⟩,.int .i64 0,.int .i64 0,.slice none 0 0] 24)=W1
 have hb1:Below w.heap.size w W1:=by rw[<- hW1];exact ae _ _
 have eP:ak W1 w.heap.size 24 #[.int .i64 0,.string ⟨#[]⟩,.int .i64 0,.int .i64 0,.slice none 0 0]:=by rw[<- hW1];exact ak.new w _ _
 have hs1:W1.heap.size=w.heap.size+1:=by rw[<- hW1];simp
 have hm1:=PM.of_below (E:=E) (v:=v) hb1;have h1:=hpw.below hb1;have P1:=hm1;have pJ:=kH hs1;have xB:=kH hm1;clear hW1 hs1 hm1 hb1;clear hk2;have QD:Hid (v.st=v.st):=kH rfl;refine(vN E hE v _ h1 QD.out HK.out).mono ?_;rintro e w2 ⟨rfl,v2,hv2,h2,hm2⟩;have iw:=kH hv2;have hR2:=hm2.blk h1 eP;have P2:=P1.trans hm2;clear hv2 hm2;by_cases hk2:k=2
 ·subst hk2
  go_wp2_with fail
  refine(vJ E hE v2 _ h2 iw.out (by rw[HK.out];decide)).mono ?_;rintro e w3 ⟨rfl,v3,hv3,h3,eH⟩;have fU:=kH hv3;have dD:=eH.blk h2 hR2;have P3:=P2.trans eH;clear hv3 eH;go_wp2_with fail
  refine(Kv (bI (bR E.bs E.l v.st.k)) _ (LW hE _)).mono ?_;rintro e w7 ⟨rfl,rfl⟩;have hdt:bI (gV (bI (bR E.bs E.l v.st.k)).data.toList)=bI (gV (bR E.bs E.l v.st.k)):=rfl;rw[hdt];clear hdt
  have aV:Hid ((t,q)=(aI E.l (aC E.l v.st) v.st.k 24 (gV (bR E.bs E.l v.st.k)) [],aC E.l v.st)):=kH (by
   have:=HR.out;rw[HK.out,if_pos rfl]at this;simp at this
   rw[<- this.1,<- this.2])
  go_wp2_with fail
  refine(iM E hE v3 _ h3 v.st.k 24 (gV (bR E.bs E.l v.st.k)) (w.heap.size+1)).mono ?_;rintro e w4 ⟨rfl,hb4,lD⟩;have h4:=h3.below hb4;have fB:=dD.below hb4 dD.lt;obtain⟨⟨r0,r1,r2,r3,r4⟩,g0,g1,g2,g3,g4⟩:=fB.five;go_wp2_with fail
  have bC:=kH (bO (v:=v) h4 (P3.trans (PM.of_below hb4)) rfl fB hgl lD);clear lD;refine bodyPost_ret (v:=.agg #[.int .i64 24,.string (bI (gV (bR E.bs E.l v.st.k))),.int .i64 (bW E.l v3.st v.st.k []),.int .i64 (v3.st.last:Int),.slice none 0 0]) (by simp[results,Tryz.results185,go_sem,r0,r1,r2,r3,r4]) rfl ?_;exact Eq.mp (congrArg (fun r=>bK E w v r _ _) (show(aI E.l v3.st v.st.k 24 (gV (bR E.bs E.l v.st.k)) [],v3.st)=_ by rw[fU.out,aV.out])) bC.out
 have hki:((k:Int)==2)=false:=by simp;omega
 have hkn:(k==2)=false:=by simp[hk2]
 have hR2:=HR.out;rw[if_neg (by rw[HK.out];exact hk2)]at hR2;replace HR:=kH hR2
 clear hR2 hk2;go_wp2_with fail
 refine(BA E hE v2 _ h2 iw.out [116,114,117,101] HB1.out).mono ?_;rintro e w3 ⟨rfl,v3,hv3,h3,eH⟩;have fU:=kH hv3;have dD:=eH.blk h2 hR2;have P3:=P2.trans eH;clear hv3 eH;cases b1
 case true=>
  have aV:Hid ((t,q)=(aI E.l (aC E.l v.st) v.st.k 25 (bR E.bs E.l v.st.k) [],aC E.l v.st)):=kH (by
   have:=HR.out;rw[HB1.out,if_pos (by simp)]at this;simp at this
   rw[<- this.1,<- this.2])
  go_wp2_with fail
  refine(vJ E hE v3 _ h3 fU.out (Ga HB1.out)).mono ?_;rintro e w4 ⟨rfl,v4,hv4,h4,iI⟩;have iY:=kH hv4;have fB:=iI.blk h3 dD;have P4:=P3.trans iI;clear hv4 iI;go_wp2_with fail
  refine(iM E hE v4 _ h4 v.st.k 25 (bR E.bs E.l v.st.k) (w.heap.size+1)).mono ?_;rintro e w5 ⟨rfl,hb5,jH⟩;have h5:=h4.below hb5;have fK:=fB.below hb5 fB.lt;obtain⟨⟨r0,r1,r2,r3,r4⟩,g0,g1,g2,g3,g4⟩:=fK.five;go_wp2_with fail
  have bC:=kH (bO (v:=v) h5 (P4.trans (PM.of_below hb5)) rfl fK hgl jH);clear jH;refine bodyPost_ret (v:=.agg #[.int .i64 25,.string (bI (bR E.bs E.l v.st.k)),.int .i64 (bW E.l v4.st v.st.k []),.int .i64 (v4.st.last:Int),.slice none 0 0]) (by simp[results,Tryz.results185,go_sem,r0,r1,r2,r3,r4]) rfl ?_;exact Eq.mp (congrArg (fun r=>bK E w v r _ _) (show(aI E.l v4.st v.st.k 25 (bR E.bs E.l v.st.k) [],v4.st)=_ by rw[iY.out,aV.out])) bC.out
 go_wp2_with fail
 refine(BA E hE v3 _ h3 fU.out [102,97,108,115,101] HB2.out).mono ?_;rintro e w4 ⟨rfl,v4,hv4,h4,iI⟩;have iY:=kH hv4;have fB:=iI.blk h3 dD;have P4:=P3.trans iI;clear hv4 iI;cases b2
 case true=>
  have aV:Hid ((t,q)=(aI E.l (aC E.l v.st) v.st.k 25 (bR E.bs E.l v.st.k) [],aC E.l v.st)):=kH (by
   have:=HR.out;rw[HB1.out,HB2.out,if_pos (by simp)]at this;simp at this
   rw[<- this.1,<- this.2])
  go_wp2_with fail
  refine(vJ E hE v4 _ h4 iY.out (Ga HB2.out)).mono ?_;rintro e w5 ⟨rfl,v5,hv5,h5,iH⟩;have HV5:=kH hv5;have fK:=iH.blk h4 fB;have P5:=P4.trans iH;clear hv5 iH;go_wp2_with fail
  refine(iM E hE v5 _ h5 v.st.k 25 (bR E.bs E.l v.st.k) (w.heap.size+1)).mono ?_;rintro e w6 ⟨rfl,hb6,qR⟩;have h6:=h5.below hb6;have fI:=fK.below hb6 fK.lt;obtain⟨⟨r0,r1,r2,r3,r4⟩,g0,g1,g2,g3,g4⟩:=fI.five;go_wp2_with fail
  have bC:=kH (bO (v:=v) h6 (P5.trans (PM.of_below hb6)) rfl fI hgl qR);clear qR;refine bodyPost_ret (v:=.agg #[.int .i64 25,.string (bI (bR E.bs E.l v.st.k)),.int .i64 (bW E.l v5.st v.st.k []),.int .i64 (v5.st.last:Int),.slice none 0 0]) (by simp[results,Tryz.results185,go_sem,r0,r1,r2,r3,r4]) rfl ?_;exact Eq.mp (congrArg (fun r=>bK E w v r _ _) (show(aI E.l v5.st v.st.k 25 (bR E.bs E.l v.st.k) [],v5.st)=_ by rw[HV5.out,aV.out])) bC.out
 have hR2:=HR.out;rw[HB1.out,HB2.out,if_neg (by simp)]at hR2;replace HR:=kH hR2
 clear hR2;go_wp2_with fail
 refine(vN E hE v4 _ h4 iY.out HK.out).mono ?_;rintro e w5 ⟨rfl,v5,hv5,h5,iH⟩;have HV5:=kH hv5;have fK:=iH.blk h4 fB;have P5:=P4.trans iH;clear hv5 iH;by_cases hk0:k=0
 ·subst hk0
  obtain⟨x,hx⟩:∃x,oo E.bs E.l v.st=x:=⟨_,rfl⟩
  have HX:=kH hx;clear hx;go_wp2_with fail
  refine(MZ E hE v5 _ h5 HV5.out HX.out).mono ?_;rintro e w6 ⟨rfl,v6,hv6,h6,dM⟩;have lU:=kH hv6;have fI:=dM.blk h5 fK;have P6:=P5.trans dM;clear hv6 dM;by_cases yS:x=[40]
  ·subst yS
   obtain⟨kids,q1,hy,hrq⟩:∃kids q1,aO E.bs E.l f .args (aC E.l v.st)=some (kids,q1)/\(t,q)=(aI E.l q1 v.st.k 27 (bR E.bs E.l v.st.k) kids,q1):=by
    have:=HR.out;rw[if_pos (by rw[HK.out,HX.out];simp)]at this;obtain⟨ks,p,h1,h2⟩:=vL this;simp at h2;exact⟨ks,p,h1,by rw[<- h2.1,<- h2.2]⟩
   have HY:=kH hy;have aV:=kH hrq;have e40:bI [40]=⟨#[40]⟩:=rfl;rw[e40];clear hy hrq e40;go_wp2_with fail
   refine(vJ E hE v6 _ h6 lU.out (by rw[HK.out];decide)).mono ?_;rintro e w7 ⟨rfl,v7,hv7,h7,jd⟩;have lT:=kH hv7;have fH:=jd.blk h6 fI;have P7:=P6.trans jd;clear hv7 jd;have hcall:=(fO.out f (aab _)).args v7 w7 kids q1 h7 (by rw[lT.out];exact FE hE.empty HX.out) (by rw[lT.out];exact HY.out);have HC:=kH hcall;clear hcall;go_wp2_with fail
   refine HC.out.mono ?_;rintro e w8 ⟨A8,n8,c8,rfl,hK8,v8,eX,h8,ed⟩;have ic:=kH eX;have eB:=ed.blk h7 fH;have P8:=P7.trans ed;have nC:=kH (hK8.low (lo':=w.heap.size+1) fH.lt);clear eX ed hK8;go_wp2_with fail
   refine(dY E hE v8 _ h8 v.st.k 27 (bR E.bs E.l v.st.k) (w.heap.size+1) A8 n8 c8 kids nC.out).mono ?_;rintro e w9 ⟨rfl,ek,om⟩;have h9:=h8.below ek;have fA:=eB.below ek eB.lt;obtain⟨⟨r0,r1,r2,r3,r4⟩,g0,g1,g2,g3,g4⟩:=fA.five;go_wp2_with fail
   have bC:=kH (bO (v:=v) h9 (P8.trans (PM.of_below ek)) rfl fA hgl om);clear om;refine bodyPost_ret (v:=.agg #[.int .i64 27,.string (bI (bR E.bs E.l v.st.k)),.int .i64 (bW E.l v8.st v.st.k kids),.int .i64 (v8.st.last:Int),.slice A8 n8 c8]) (by simp[results,Tryz.results185,go_sem,r0,r1,r2,r3,r4]) rfl ?_;exact Eq.mp (congrArg (fun r=>bK E w v r _ _) (show(aI E.l v8.st v.st.k 27 (bR E.bs E.l v.st.k) kids,v8.st)=_ by rw[aV.out,ic.out])) bC.out
  ·obtain⟨wd,hwd⟩:∃y,bI x=y:=⟨_,rfl⟩
   have hwf:(wd.data.toList==[40])=false:=by rw[<- hwd];simpa [bI] using yS
   have hwf2:(wd.toList==[40])=false:=by rw[ByteArray.toList_eq];exact hwf
   rw[hwd];have hR2:=HR.out;rw[if_neg (by rw[HK.out,HX.out];simp[yS]),if_pos HK.out]at hR2;replace HR:=kH hR2
   clear hR2 hwd yS;go_wp2_with fail
   refine(vN E hE v6 _ h6 lU.out HK.out).mono ?_;rintro e w7 ⟨rfl,v7,hv7,h7,jd⟩;have lT:=kH hv7;have fH:=jd.blk h6 fI;have P7:=P6.trans jd;clear hv7 jd;have hcall:=(fO.out f (aab _)).place v7 w7 t q h7 (by rw[lT.out];exact HR.out);have HC:=kH hcall;clear hcall;go_wp2_with fail
   refine(HC.out).mono ?_;rintro e w8 ⟨k8,t8,a8,z8,A8,n8,c8,rfl,rQ,v8,eX,h8,ed⟩;try dsimp only at eX rQ
   have ic:=kH eX;have eB:=ed.blk h7 fH;have P8:=P7.trans ed;replace rQ:=aF.weak (Q:=fun g=>w.heap.size+1<=g) (fun g _ hg=>aac fH.lt hg) _ _ rQ
   clear eX ed;have aV:=trivial;obtain⟨⟨r0,r1,r2,r3,r4⟩,g0,g1,g2,g3,g4⟩:=eB.five;go_wp2_with fail
   have bC:=kH (bO (v:=v) h8 P8 rfl eB hgl rQ);clear rQ;rw[ic.out]at bC;refine bodyPost_ret (v:=.agg #[.int .i64 k8,.string t8,.int .i64 a8,.int .i64 z8,.slice A8 n8 c8]) (by simp[results,Tryz.results185,go_sem,r0,r1,r2,r3,r4]) rfl ?_;try rw[aV.out]
   exact bC.out
 have UX:((k:Int)==0)=false:=by simp;omega
 have UU:(k==0)=false:=by simp[hk0]
 have hR2:=HR.out;rw[if_neg (by rw[HK.out];simp[hk0]),if_neg (by rw[HK.out];exact hk0)]at hR2;replace HR:=kH hR2
 clear hR2 hk0;go_wp2_with fail
 refine(vN E hE v5 _ h5 HV5.out HK.out).mono ?_;rintro e w6 ⟨rfl,v6,hv6,h6,dM⟩;have lU:=kH hv6;have fI:=dM.blk h5 fK;have P6:=P5.trans dM;clear hv6 dM;go_wp2_with fail
 cases b3
 case true=>
  obtain⟨x8,q8,kids,q1,hx,hy,hrq⟩:∃x q8 kids q1,aO E.bs E.l f (.expr 1) (aC E.l v.st)=some ([x],q8)/\aO E.bs E.l f (.oq [x]) q8=some (kids,q1)/\(t,q)=(aI E.l (aH E.bs E.l q1 [93]) v.st.k 26 [] kids,aH E.bs E.l q1 [93]):=by
   have:=HR.out;rw[HB3.out,if_pos rfl]at this;obtain⟨x,p,h1,h2⟩:=fE this;obtain⟨ks,p2,h3,h4⟩:=vL h2;simp at h4;exact⟨x,p,ks,p2,h1,h3,by rw[<- h4.1,<- h4.2]⟩
  have HX:=kH hx;have HY:=kH hy;have aV:=kH hrq;clear hx hy hrq HR;refine(pg E hE v6 _ h6 lU.out [91] HB3.out).mono ?_;rintro e w7 ⟨rfl,v7,hv7,h7,jd⟩;have lT:=kH hv7;have fH:=jd.blk h6 fI;have P7:=P6.trans jd;clear hv7 jd;have hcall:=(fO.out f (aab _)).expr 1 v7 w7 x8 q8 h7 (by omega) (by omega) (by rw[lT.out];exact HX.out);have HC:=kH hcall;clear hcall;go_wp2_with fail
  refine(HC.out).mono ?_;rintro e w8 ⟨k8,t8,a8,z8,A8,n8,c8,rfl,rQ,v8,eX,h8,ed⟩;try dsimp only at eX rQ
  have ic:=kH eX;have eB:=ed.blk h7 fH;have P8:=P7.trans ed;replace rQ:=aF.weak (Q:=fun g=>w.heap.size+1<=g) (fun g _ hg=>aac fH.lt hg) _ _ rQ
  clear eX ed;go_wp2_with fail
  have FQ:=kH (kE rQ (by have:=eB.lt;omega));generalize nX:w8.alloc (.cells #[.int .i64 k8,.string t8,.int .i64 a8,.int .i64 z8,.slice A8 n8 c8] 24)=w9 at FQ⊢
  have ek:Below w8.heap.size w8 w9:=by rw[<- nX];exact ae _ _
  have h9:=h8.below ek;have fA:=eB.below ek eB.lt;have P9:=P8.trans (PM.of_below ek);clear nX;go_loopg [6] f (fun gk s6 wr=> ∃A n c vx ts,s6= .slice A n c/\bT wr (w.heap.size+1) (.slice A n c) n ts/\gk<=f/\aO E.bs E.l gk (.oq ts) vx.st=some (kids,q1)/\n<=vx.st.k+1/\PW wr E vx/\PM E w v wr vx/\ak wr w.heap.size 24 #[.int .i64 0,.string ⟨#[]⟩,.int .i64 0,.int .i64 0,.slice none 0 0])
  case atStart=>exact⟨_,1,_,v8,[x8],rfl,FQ.out,aab _,by rw[ic.out];exact HY.out,by omega,h9,P9,fA⟩
  case round=>
   obtain⟨QV,n17,c17,v17,Lg,rfl,hK17,hgf,Uz,hn17,wV,KP,Fq⟩:=hrel
   cases gk with
   | zero=>simp[aO]at Uz
   | succ gk=>
    rw[aO]at Uz;have HX17:=kH Uz;have LH:=kH hK17;have hat17:=wV.at_;have zC:=hE.most;clear Uz hK17;obtain⟨b7,dQ⟩:∃x,bM E.bs E.l v17.st [44]=x:=⟨_,rfl⟩
    have gT:=kH dQ;clear dQ;go_wp2_with fail
    refine(gI E hE v17 [44] _ wV).mono ?_;rintro e w18 ⟨rfl,v18,hv18,h18,hm18⟩;rw[gT.out];have HV18:=kH hv18;have Fp:=hm18.blk wV Fq;have P18:=KP.trans hm18;have QL:=kH (LH.out.keeps (hm18.dZ wV));clear hv18 hm18;cases b7
    ·have hst:v18.st=v17.st:=by
      rw[HV18.out];unfold bN;rw[gT.out,if_neg (by simp)]
     have hkk:Lg=kids/\v17.st=q1:=by
      have:=HX17.out;rw[gT.out,if_neg (by simp)]at this;simpa using this
     obtain⟨rfl,yz⟩:=hkk;have FL:=kH (hst.trans yz);clear hst yz;go_wp2_with fail
     refine(kR E hE v18 [93] _ h18).mono ?_;rintro e mW ⟨rfl,v12,lJ,h12,iP⟩;have nK:=kH lJ;rw[FL.out]at nK;have je:=iP.blk h18 Fp;have mY:=P18.trans iP;have pq:=kH (QL.out.keeps (iP.dZ h18));clear lJ iP;go_wp2_with fail
     refine(dY E hE v12 _ h12 v.st.k 26 [] (w.heap.size+1) QV n17 c17 Lg pq.out).mono ?_;rintro e uC ⟨rfl,jo,qZ⟩;have qf:=h12.below jo;have lY:=je.below jo je.lt;obtain⟨⟨r0,r1,r2,r3,r4⟩,g0,g1,g2,g3,g4⟩:=lY.five;go_wp2_with fail
     have bC:=kH (bO (v:=v) qf (mY.trans (PM.of_below jo)) rfl lY hgl qZ);clear qZ;refine bodyPost_ret (v:=.agg #[.int .i64 26,.string (bI []),.int .i64 (bW E.l v12.st v.st.k Lg),.int .i64 (v12.st.last:Int),.slice QV n17 c17]) (by simp[results,Tryz.results185,go_sem,r0,r1,r2,r3,r4]) rfl ?_;exact Eq.mp (congrArg (fun r=>bK E w v r _ _) (show(aI E.l v12.st v.st.k 26 [] Lg,v12.st)=_ by rw[aV.out,nK.out])) bC.out
    ·have hst:v18.st=aC E.l v17.st:=by
      rw[HV18.out];unfold bN;rw[gT.out,if_pos rfl]
     obtain⟨x9,q9,EX,hnx⟩:∃x9 q9,aO E.bs E.l gk (.expr 1) v18.st=some ([x9],q9)/\aO E.bs E.l gk (.oq (Lg++[x9])) q9=some (kids,q1):=by
      have:=HX17.out;rw[gT.out,if_pos rfl,<- hst]at this;exact fE this
     have D6:v18.st.k=v17.st.k+1:=by rw[hst];rfl
     have hpr:=Bw hE.ends hE.empty EX (by rw[hE.len];exact h18.at_) ⟨by omega,by omega⟩;have hlt:=hpr.1.1;have hcall:=(fO.out gk (by omega)).expr 1 v18 w18 x9 q9 h18 (by omega) (by omega) EX;have jD:=kH hcall;have aZ:=kH hnx;have Jl:=kH D6;have Pg:n17<=5001:=by omega
     have HGF:Hid (gk<=f):=kH (by omega);clear hst hpr EX hcall hnx D6;go_wp2_with fail
     refine jD.out.mono ?_;rintro e w19 ⟨k19,t19,a19,z19,A19,n19,c19,rfl,hT19,v19,hv19,h19,YG⟩;have HV19:=kH hv19;have hR19:=YG.blk h18 Fp;have P19:=P18.trans YG;clear hv19;obtain⟨vals20,Zb,hTs20,hn20⟩:=QL.out.keeps (YG.dZ h18);have hTn20:aF w19 (fun g=>w.heap.size+1<=g/\some g≠(Value.slice QV n17 c17).ownBlock) _ _:=aF.weak (fun g _ hg=>⟨aac Fp.lt hg,fun e1=>by obtain⟨_,hO4,_,_⟩:=QL.out;have:=(hO4.lt g e1.symm).2;omega⟩) _ _ hT19;have hro20:(Value.slice QV n17 c17).ownBlock≠some w.heap.size:=fun e1=>by have:=(Zb.lt _ e1).1;omega
     have hrz20:=hR19.lt;have HO20:=kH Zb;have HTs20:=kH hTs20;have HTn20:=kH hTn20;have Hn20:=kH hn20;have HRO20:=kH hro20;clear Zb hTs20 hTn20 hn20 hro20 hT19;go_wp2_with (at_builtin;go_must (refine dP _ rfl (.tmp 67) (.tmp 70) _ rfl (w.heap.size+1) 24 i0 _ 5 64 Tryz.underlying22 hi0 hz0 hz1 hz2 rfl (.slice QV n17 c17) n17 (List.flatten vals20) rfl (HO20.out.alloc _) ⟨w19.heap.size,0,none⟩ 1 1 [.int .i64 k19,.string t19,.int .i64 a19,.int .i64 z19,.slice A19 n19 c19] rfl rfl (jr _ _ _ _ _ _ _ (by go_simp) (by go_simp) (by go_simp) (by go_simp) (by go_simp)) (by simp[Value.oneCell']) (by simp only[maxLen];omega) (by omega) (by simp;omega) ?_);intro vn w20 hown hgrow hat;obtain⟨A20,c20,eG,-,-⟩:=hown.shape;subst eG;have HOWN20:=kH hown;have SQ:=kH hgrow;have HAT20:=kH hat;clear hown hgrow hat)
     have HK20:=kH (bT.pushed HTs20.out Hn20.out HTn20.out HOWN20.out SQ.out HAT20.out);obtain⟨h20,P20,RY⟩:=lK h19 P19 HO20.out (Nat.le_succ _) SQ.out;have hR20:=RY _ _ hR19 HRO20.out;clear RY;go_roundg gk
     case measure=>omega
     case rel=>
      refine⟨A20,n17+1,c20,v19,Lg++[x9],rfl,HK20.out,HGF.out,by rw[HV19.out];exact aZ.out,?_,h20,P20,hR20⟩;rw[HV19.out];have:=Jl.out;show n17+1<=q9.k+1;omega
 have hR2:=HR.out;rw[HB3.out,if_neg (by simp)]at hR2;replace HR:=kH hR2
 clear hR2;refine(qJ E hE v6 _ h6 lU.out [91] HB3.out).mono ?_;rintro e w7 ⟨rfl,v7,hv7,h7,jd⟩;have lT:=kH hv7;have fH:=jd.blk h6 fI;have P7:=P6.trans jd;clear hv7 jd;go_wp2_with fail
 cases b4
 case true=>
  have aV:Hid ((t,q)=(aI E.l (aH E.bs E.l (kW E.bs E.l (aH E.bs E.l (aC E.l v.st) [40])).2 [41]) v.st.k 23 [] [(kW E.bs E.l (aH E.bs E.l (aC E.l v.st) [40])).1],aH E.bs E.l (kW E.bs E.l (aH E.bs E.l (aC E.l v.st) [40])).2 [41])):=kH (by
   have:=HR.out;rw[pK.out,if_pos rfl]at this;simp at this
   rw[<- this.1,<- this.2])
  clear HR;refine(pg E hE v7 _ h7 lT.out [108,101,110] pK.out).mono ?_;rintro e w8 ⟨rfl,v8,eX,h8,ed⟩;have ic:=kH eX;have eB:=ed.blk h7 fH;have P8:=P7.trans ed;clear eX ed;go_wp2_with fail
  refine(kI E hE v8 _ h8 ic.out [40]).mono ?_;rintro e w9 ⟨rfl,v9,iU,h9,gH⟩;have kL:=kH iU;have fA:=gH.blk h8 eB;have P9:=P8.trans gH;clear iU gH;go_wp2_with fail
  refine(Q0 E hE v9 _ h9 kL.out).mono ?_;rintro e bJ ⟨k10,t10,Ba,zP,o5,n10,c10,rfl,mQ,v10,gL,h10,fw⟩;try dsimp only at gL mQ
  have jf:=kH gL;have dV:=fw.blk h9 fA;have jZ:=P9.trans fw;replace mQ:=aF.weak (Q:=fun g=>w.heap.size+1<=g) (fun g _ hg=>aac fA.lt hg) _ _ mQ
  clear gL fw;go_wp2_with fail
  generalize tQ:bJ.alloc (.cells #[.int .i64 k10,.string t10,.int .i64 Ba,.int .i64 zP,.slice o5 n10 c10] 24)=jF
  have jC:Below bJ.heap.size bJ jF:=by rw[<- tQ];exact ae _ _
  have Bb:iA jF _ bJ.heap.size _ (.int .i64 k10) (.string t10) (.int .i64 Ba) (.int .i64 zP) (.slice o5 n10 c10):=⟨by rw[<- tQ];exact ak.new bJ _ _,aF.keeps (dB.of_below jC) _ _ mQ⟩
  have sN:jF.heap.size=bJ.heap.size+1:=by rw[<- tQ];simp
  have h11:=h10.below jC;have jq:=dV.below jC dV.lt;have rA:=jZ.trans (PM.of_below jC);obtain⟨v11,lW⟩:∃vv,vv=v10:=⟨_,rfl⟩
  have ni:=jf;rw[<- lW]at h11 rA ni;try rw[<- sN]
  clear lW tQ mQ sN;refine(kI E hE v11 _ h11 ni.out [41]).mono ?_;rintro e mW ⟨rfl,v12,lJ,h12,iP⟩;have nK:=kH lJ;have je:=iP.blk h11 jq;have mY:=rA.trans iP;replace Bb:=Bb.pm iP h11
  clear lJ iP;obtain⟨⟨ZZ,ZY,ZX,ZW,ZV⟩,ZU,ZT,ZR,ZQ,ZP⟩:=Bb.1.five;have ZO:=Bb.1.lt;go_wp2_with fail
  clear ZZ ZY ZX ZW ZV ZU ZT ZR ZQ ZP ZO;have QM:=kH (kE Bb.2 (by have:=je.lt;omega));generalize PO:mW.alloc (.cells #[.int .i64 k10,.string t10,.int .i64 Ba,.int .i64 zP,.slice o5 n10 c10] 24)=uC at QM⊢
  have jo:Below mW.heap.size mW uC:=by rw[<- PO];exact ae _ _
  have qf:=h12.below jo;have lY:=je.below jo je.lt;have FJ:=mY.trans (PM.of_below jo);obtain⟨v13,yR⟩:∃vv,vv=v12:=⟨_,rfl⟩
  have DJ:=nK;rw[<- yR]at qf FJ DJ;clear yR PO;refine(dY E hE v13 _ qf v.st.k 23 [] (w.heap.size+1) (some ⟨mW.heap.size,0,none⟩) 1 1 [(kW E.bs E.l (aH E.bs E.l (aC E.l v.st) [40])).1] QM.out).mono ?_;rintro e xh ⟨rfl,qc,Ar⟩;have yE:=qf.below qc;have vw:=lY.below qc lY.lt;obtain⟨⟨r0,r1,r2,r3,r4⟩,g0,g1,g2,g3,g4⟩:=vw.five;go_wp2_with fail
  have bC:=kH (bO (v:=v) yE (FJ.trans (PM.of_below qc)) rfl vw hgl Ar);clear Ar;refine bodyPost_ret (v:=.agg #[.int .i64 23,.string (bI []),.int .i64 (bW E.l v13.st v.st.k [(kW E.bs E.l (aH E.bs E.l (aC E.l v.st) [40])).1]),.int .i64 (v13.st.last:Int),.slice (some ⟨mW.heap.size,0,none⟩) 1 1]) (by simp[results,Tryz.results185,go_sem,r0,r1,r2,r3,r4]) rfl ?_;exact Eq.mp (congrArg (fun r=>bK E w v r _ _) (show(aI E.l v13.st v.st.k 23 [] [(kW E.bs E.l (aH E.bs E.l (aC E.l v.st) [40])).1],v13.st)=_ by rw[aV.out,DJ.out])) bC.out
 have hR2:=HR.out;rw[pK.out,if_neg (by simp)]at hR2;replace HR:=kH hR2
 clear hR2;refine(qJ E hE v7 _ h7 lT.out [108,101,110] pK.out).mono ?_;rintro e w8 ⟨rfl,v8,eX,h8,ed⟩;have ic:=kH eX;have eB:=ed.blk h7 fH;have P8:=P7.trans ed;clear eX ed;go_wp2_with fail
 cases b5
 case true=>
  obtain⟨x9,q9,hx,hrq⟩:∃x q1,aO E.bs E.l f (.expr 1) (aC E.l v.st)=some ([x],q1)/\(t,q)=(x,aH E.bs E.l q1 [41]):=by
   have:=HR.out;rw[fT.out,if_pos rfl]at this;obtain⟨x,p,h1,h2⟩:=fE this;simp at h2;exact⟨x,p,h1,by rw[<- h2.1,<- h2.2]⟩
  have HX:=kH hx;have aV:=kH hrq;clear hx hrq HR;refine(pg E hE v8 _ h8 ic.out [40] fT.out).mono ?_;rintro e w9 ⟨rfl,v9,iU,h9,gH⟩;have kL:=kH iU;have fA:=gH.blk h8 eB;have P9:=P8.trans gH;clear iU gH;have hcall:=(fO.out f (aab _)).expr 1 v9 w9 x9 q9 h9 (by omega) (by omega) (by rw[kL.out];exact HX.out);have HC:=kH hcall;clear hcall;go_wp2_with fail
  refine(HC.out).mono ?_;rintro e bJ ⟨k10,t10,Ba,zP,o5,n10,c10,rfl,mQ,v10,gL,h10,fw⟩;try dsimp only at gL mQ
  have jf:=kH gL;have dV:=fw.blk h9 fA;have jZ:=P9.trans fw;replace mQ:=aF.weak (Q:=fun g=>w.heap.size+1<=g) (fun g _ hg=>aac fA.lt hg) _ _ mQ
  clear gL fw;go_wp2_with fail
  generalize tQ:bJ.alloc (.cells #[.int .i64 k10,.string t10,.int .i64 Ba,.int .i64 zP,.slice o5 n10 c10] 24)=jF
  have jC:Below bJ.heap.size bJ jF:=by rw[<- tQ];exact ae _ _
  have Bb:iA jF _ bJ.heap.size _ (.int .i64 k10) (.string t10) (.int .i64 Ba) (.int .i64 zP) (.slice o5 n10 c10):=⟨by rw[<- tQ];exact ak.new bJ _ _,aF.keeps (dB.of_below jC) _ _ mQ⟩
  have sN:jF.heap.size=bJ.heap.size+1:=by rw[<- tQ];simp
  have h11:=h10.below jC;have jq:=dV.below jC dV.lt;have rA:=jZ.trans (PM.of_below jC);obtain⟨v11,lW⟩:∃vv,vv=v10:=⟨_,rfl⟩
  have ni:=jf;rw[<- lW]at h11 rA ni;try rw[<- sN]
  clear lW tQ mQ sN;refine(kI E hE v11 _ h11 ni.out [41]).mono ?_;rintro e mW ⟨rfl,v12,lJ,h12,iP⟩;have nK:=kH lJ;have je:=iP.blk h11 jq;have mY:=rA.trans iP;replace Bb:=Bb.pm iP h11
  clear lJ iP;obtain⟨⟨ZZ,ZY,ZX,ZW,ZV⟩,ZU,ZT,ZR,ZQ,ZP⟩:=Bb.1.five;have ZO:=Bb.1.lt;obtain⟨⟨r0,r1,r2,r3,r4⟩,g0,g1,g2,g3,g4⟩:=je.five;go_wp2_with fail
  have bC:=kH (bO (v:=v) h12 mY nK.out je hgl Bb.2);refine bodyPost_ret (v:=.agg #[.int .i64 k10,.string t10,.int .i64 Ba,.int .i64 zP,.slice o5 n10 c10]) (by simp[results,Tryz.results185,go_sem,r0,r1,r2,r3,r4]) rfl ?_;rw[aV.out];exact bC.out
 have aV:Hid ((t,q)=(aI E.l (iK E.l v.st 5 []) v.st.k 1 [] [],iK E.l v.st 5 [])):=kH (by
  have:=HR.out;rw[fT.out,if_neg (by simp)]at this;simp at this
  rw[<- this.1,<- this.2])
 clear HR;refine(qJ E hE v8 _ h8 ic.out [40] fT.out).mono ?_;rintro e w9 ⟨rfl,v9,iU,h9,gH⟩;have kL:=kH iU;have fA:=gH.blk h8 eB;have P9:=P8.trans gH;clear iU gH;go_wp2_with fail
 refine(Mi E hE v9 _ h9 kL.out 5 []).mono ?_;rintro e bJ ⟨⟨u10,rfl⟩,v10,gL,h10,fw⟩;have jf:=kH gL;have dV:=fw.blk h9 fA;have jZ:=P9.trans fw;clear gL fw;go_wp2_with fail
 refine(iM E hE v10 _ h10 v.st.k 1 [] (w.heap.size+1)).mono ?_;rintro e jF ⟨rfl,jC,nY⟩;have h11:=h10.below jC;have jq:=dV.below jC dV.lt;obtain⟨⟨r0,r1,r2,r3,r4⟩,g0,g1,g2,g3,g4⟩:=jq.five;go_wp2_with fail
 have bC:=kH (bO (v:=v) h11 (jZ.trans (PM.of_below jC)) rfl jq hgl nY);clear nY;refine bodyPost_ret (v:=.agg #[.int .i64 1,.string (bI []),.int .i64 (bW E.l v10.st v.st.k []),.int .i64 (v10.st.last:Int),.slice none 0 0]) (by simp[results,Tryz.results185,go_sem,r0,r1,r2,r3,r4]) rfl ?_;exact Eq.mp (congrArg (fun r=>bK E w v r _ _) (show(aI E.l v10.st v.st.k 1 [] [],v10.st)=_ by rw[jf.out,aV.out])) bC.out
end Go.Proofs.YtoepemlnlpamlaaGreat
