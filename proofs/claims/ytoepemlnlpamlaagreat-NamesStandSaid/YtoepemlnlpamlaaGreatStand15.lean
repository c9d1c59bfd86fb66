/- The law NamesStand holds: for every text and every number the law returns true, and its arguments read as before. No condition. Part 15: Parse Stat. -/
import Derived.Test.YtoepemlnlpamlaaGreatStand14
set_option maxRecDepth 100000
set_option maxHeartbeats 4000000
namespace Go.Proofs.YtoepemlnlpamlaaGreat
open Go.RowKit
section
variable {s:bE}{l:List jP}
theorem EH(he:nL l){f:Nat}{p:PS}{x:aa}{q:PS}(h:nE s l f p=some (x,q))(hp:p.k<l.length)(h5:bP l p≠5):Le l p q/\p.k<q.k:=by
 obtain⟨f0,x0,q0,h0,h1,h2⟩:=JB (s:=s) he hp h5;have e1:=kD (F:=fun f=>nE s l f p) (fun f y h=>wD f _ y h) (Nat.le_max_left f f0) h;have e2:=kD (F:=fun f=>nE s l f p) (fun f y h=>wD f _ y h) (Nat.le_max_right f f0) h0;rw[e1]at e2;cases e2
 exact⟨h1,h2⟩
theorem JN(he:nL l)(hend:pM s l){f:Nat}{p:PS}{x:aa}{q:PS}(h:rX s l f p=some (x,q))(hp:p.k<l.length)(h5:bP l p≠5):Le l p q/\p.k<q.k:=by
 obtain⟨f0,x0,q0,h0,h1,h2⟩:=OG (s:=s) he hend hp h5;have e1:=kD (F:=fun f=>rX s l f p) (fun f y h=>zA f _ y h) (Nat.le_max_left f f0) h;have e2:=kD (F:=fun f=>rX s l f p) (fun f y h=>zA f _ y h) (Nat.le_max_right f f0) h0;rw[e1]at e2;cases e2
 exact⟨h1,h2⟩
theorem EM(he:nL l){f:Nat}{p:PS}{q:PS}(h:nz s l f p=some q)(hp:p.k<l.length):Le l p q/\((decide (bP l p≠5)&& !bM s l p [114,101,99,111,114,100]&& !bM s l p [112,114,111,99])=true->p.k<q.k):=by
 obtain⟨f0,q0,h0,h1,h2⟩:=Mq (s:=s) he (l.length) p hp (by omega);have e1:=kD (F:=fun f=>nz s l f p) (fun f y h=>xY f _ y h) (Nat.le_max_left f f0) h;have e2:=kD (F:=fun f=>nz s l f p) (fun f y h=>xY f _ y h) (Nat.le_max_right f f0) h0;rw[e1]at e2;cases e2
 exact⟨h1,h2⟩
end
def zN(w0:World)(t:aa)(ds:List Dg)(e:Ending)(w':World):Prop:=
 ∃k x a z A n c DA dn dc,e= .returned (.tuple #[.agg #[.int .i64 k,.string x,.int .i64 a,.int .i64 z,.slice A n c],.slice DA dn dc,.int .i64 0])/\aF w' (fun g=>w0.heap.size<=g) t [.int .i64 k,.string x,.int .i64 a,.int .i64 z,.slice A n c]/\dn=ds.length/\aP w' w0.heap.size 78 5 (.slice DA dn dc) dn (ds.flatMap cO)/\Below w0.heap.size w0 w'
theorem leaf_to(E:PE)(hE:E.Ok)(v:PV)(w:World)(hpw:PW w E v){p:PS}(hst:v.st=p)(first:Nat)(kind:Int)(t:bE):
 Calls Tryz.prog 71 #[.pointer (some ⟨E.gp,0,none⟩),.int .i64 (first:Int),.int .i64 kind,.string (bI t),.slice none 0 0] w (bK E w v (aI E.l p first kind t [],p)):=by
 subst hst;refine(iM E hE v w hpw first kind t w.heap.size).mono ?_;rintro e w' ⟨rfl,hb,hT⟩;exact⟨_,_,_,_,_,_,_,rfl,hT,v,rfl,hpw.below hb,PM.of_below hb⟩
theorem GG(s:bE):(iL s).length<=s.length+1:=aac (List.length_filterMap_le _ _) (xV s)
theorem Mj(s:ByteArray)(w0:World)(hs:s.size<=4096):Calls Tryz.prog 37 #[.string s] w0 fun e w'=> ∃f t ds,qE f s.data.toList=some (t,ds)/\zN w0 t ds e w':=by
 obtain⟨i0,hi0,hz0,hz1,hz2⟩:=info_parts pF;have hgt:¬(4096:Int)<s.size:=by omega
 go_enter Tryz.func37,Tryz.ntmps37
 go_wp2_with fail
 generalize hW1:w0.alloc (.cells #[.int .i64 0,.string ⟨#[]⟩,.int .i64 0,.int .i64 0,.slice none 0 0] 24)=W1
 have hb1:Below w0.heap.size w0 W1:=by rw[<- hW1];exact ae _ _
 have hRR:ak W1 w0.heap.size 24 #[.int .i64 0,.string ⟨#[]⟩,.int .i64 0,.int .i64 0,.slice none 0 0]:=by rw[<- hW1];exact ak.new w0 _ _
 refine(Ma s W1 hs).mono ?_;rintro e w ⟨E,v,rfl,hE,hbs,hl,hlo,hst,hpw,hbw⟩;have hR0:=hRR.below hbw hRR.lt;have hgw:w0.heap.size+1<=w.heap.size:=hR0.lt;have oD:=kH (hb1.trans (hbw.mono hb1.size));obtain⟨f,kids,q,hP⟩:=Yj hE.ends hE.empty (E.l.length) v.st [] (by rw[hE.len];exact hpw.at_) (by omega);have HP:=kH hP;have Ta:=kH hbs;have HL:=kH hl;have Hg:=kH hlo;have HST:=kH hst;have Hm:=kH hgw;have Ws:W1.heap.size=w0.heap.size+1:=by rw[<- hW1];simp
 have HZW:=kH Ws;clear hW1 hb1 hRR hbw hP hbs hl hlo hst hgw Ws;have hgl:=hpw.blk.lt;go_wp2_with fail
 generalize Aq:w.alloc (.cells #[] 24)=w2
 have hb2:Below w.heap.size w w2:=by rw[<- Aq];exact ae _ _
 have hK2:bT w2 w.heap.size (.slice (some ⟨w.heap.size,0,none⟩) 0 0) 0 []:=by
  refine⟨[],?_,rfl,rfl⟩;have hn:=ak.new w 24 #[];rw[Aq]at hn;exact aP.block (n:=0) (cur:=#[]) (aab _) hn (by simp[maxLen]) rfl
 have h2:=hpw.below hb2;have P2:=PM.of_below (E:=E) (v:=v) hb2;have hR2:=hR0.below hb2 (by have:=Hm.out;omega);have Hl:=kH hK2;clear Aq hb2 hK2 hR0;go_loopg [6] f (fun gk s6 wr=> ∃A n c vx ts,s6= .slice A n c/\bT wr w.heap.size (.slice A n c) n ts/\j3 E.bs E.l gk vx.st ts=some (kids,q)/\n<=vx.st.k/\PW wr E vx/\PM E w v wr vx/\ak wr w0.heap.size 24 #[.int .i64 0,.string ⟨#[]⟩,.int .i64 0,.int .i64 0,.slice none 0 0])
 case atStart=>exact⟨_,0,_,v,[],rfl,Hl.out,HP.out,Nat.zero_le _,h2,P2,hR2⟩
 case round=>
  obtain⟨A7,n7,c7,v7,pR,rfl,vR,hx7,sP,h7,P7,fH⟩:=hrel
  cases gk with
  | zero=>simp[j3]at hx7
  | succ gk=>
   rw[j3]at hx7;have rC:=kH hx7;have K3:=kH vR;have IZ:=h7.at_;have zC:=hE.most;have Pg:n7<=5001:=by omega
   obtain⟨k,hk⟩:∃x,bP E.l v7.st=x:=⟨_,rfl⟩
   have HK:=kH hk;obtain⟨b1,hb1⟩:∃x,bM E.bs E.l v7.st [114,101,99,111,114,100]=x:=⟨_,rfl⟩
   have HB1:=kH hb1;obtain⟨b2,hb2⟩:∃x,bM E.bs E.l v7.st [112,114,111,99]=x:=⟨_,rfl⟩
   have HB2:=kH hb2;have xg:=kH sP;clear hx7 vR hk hb1 hb2 sP;go_wp2_with fail
   have lT:Hid (v7.st=v7.st):=kH rfl;refine(vN E hE v7 _ h7 lT.out HK.out).mono ?_;rintro e w8 ⟨rfl,v8,eX,h8,ed⟩;have ic:=kH eX;have eB:=ed.blk h7 fH;have P8:=P7.trans ed;have nC:=kH (K3.out.keeps (ed.dZ h7));clear eX ed;by_cases hk5:k=5
   ·subst hk5
    have hkk:pR=kids/\v7.st=q:=by
     have:=rC.out;rw[if_pos HK.out]at this;simpa using this
    obtain⟨rfl,yz⟩:=hkk;have FL:=kH yz;clear yz;go_wp2_with fail
    have hc4:w8.cell? ⟨E.gp,4,none⟩=some v8.lv:=h8.blk.cell 4;obtain⟨A4,c4,hv4,GX,-⟩:=h8.own.shape;rw[hv4]at hc4;have hlen:=h8.good.len (m:=4096) (by have:=hE.get v8.st.k;have:=hE.size;omega);have Dl:=h8.blk.lt;obtain⟨nd,hnd⟩:∃x,v8.st.ds.length=x:=⟨_,rfl⟩
    rw[hnd]at hc4 GX hlen;have hrow:=h8.own.rowAt (cells:=cO) (l:=v8.st.ds) hv4 rfl (by intro c _;rfl) rfl;have za:=kH hrow;have mD:=kH hnd;have hll:=GG s.data.toList;rw[dm]at hll;have KZ:=kH hll;clear hrow hnd hll hv4;refine pO (fun w'=>w'.cell? ⟨E.gp,4,none⟩=some (.slice A4 nd c4)) [] [(0,true),(1,true),(2,true),(3,true),(4,true),(6,true),(7,true),(8,true),(9,true),(5,false),(10,false),(11,false),(12,false),(13,false)] (by kernel_rfl) (by kernel_rfl) rfl (by kernel_rfl) ?_;have hS0:w8.drew.cell? ⟨E.gp,4,none⟩=some (.slice A4 nd c4):=hc4;refine iW (by simp only[aak,aai];rfl) (by rfl) hS0 (by intro w' hSw;go_simp;rfl) ?_;iterate 8(simp only[Act.put,sA,sZ,sC];refine iW (by simp only[aak,aaj,aai];rfl) (by rfl) hS0 (by intro w' hSw;go_simp;rfl) ?_)
    simp only[Act.put,sA,sZ,sC];refine rV (by simp only[aak,aaj,aai];rfl) (by rfl) ?_;go_simp
    refine(GH s _ hs).mono ?_;rintro e w9 ⟨A9,n9,c9,rfl,MB,Sb,ek⟩;have hS9:w9.cell? ⟨E.gp,4,none⟩=some (.slice A4 nd c4):=(ek.cell (p:=⟨E.gp,4,none⟩) Dl).trans hc4;refine⟨hS9,?_⟩;have u7:Below w8.heap.size w8 w9:=((Below.refl w8.heap.size w8).drew).trans ek;have hra:=Sb.rowAt (cells:=cO) (l:=iL s.data.toList) rfl rfl (by intro c _;rfl) MB.symm;obtain⟨_,_,iU,hn9c,-⟩:=Sb.shape;cases iU
    have hrb:=(za.out.below u7 (aab _)).mono u7.size;have Ph:=JU (iL s.data.toList) v8.st.ds A9 A4 c9 c4 w9 hra hrb (by have:=KZ.out;omega) (by have:=mD.out;omega) (by omega) (by have:=mD.out;omega);rw[mD.out]at Ph;refine rV (by simp only[aak,aaj,aai];rfl) (by rfl) ?_;go_simp
    refine Ph.mono ?_;rintro e bJ ⟨o5,n10,c10,rfl,p8,oK,jW⟩;have mi:Below w8.heap.size w8 bJ:=u7.trans (jW.mono u7.size);have hS10:bJ.cell? ⟨E.gp,4,none⟩=some (.slice A4 nd c4):=(mi.cell (p:=⟨E.gp,4,none⟩) Dl).trans hc4;refine⟨hS10,?_⟩;have dV:=eB.below mi eB.lt;obtain⟨⟨r0,r1,r2,r3,r4⟩,g0,g1,g2,g3,g4⟩:=dV.five
    have hne10:E.gp≠w0.heap.size:=by
     have h1:=hE.low;have h3:=Hg.out;have h4:=HZW.out;omega
    have hlr:=dV.lt;refine LU (w':=bZ bJ w0.heap.size (.int .i64 2) (.string ⟨#[]⟩) (.int .i64 0) (.int .i64 (s.size:Int)) (.slice A7 n7 c7)) (by simp only[aak,aaj,aai];rfl) (by rfl) (by unfold bZ;go_simp) (fun _=>by unfold bZ;go_simp) ?_;simp only[Act.put];iterate 2(refine pQ (w':=bZ bJ w0.heap.size (.int .i64 2) (.string ⟨#[]⟩) (.int .i64 0) (.int .i64 (s.size:Int)) (.slice A7 n7 c7)) (by simp only[aak,aaj,aai];rfl) (by rfl) (by go_simp;rfl) (fun _=>by unfold bZ;go_simp) ?_;simp only[Act.put,sA,sZ,sC])
    refine uX ?_
    have E8:aA (fun g=>g=w0.heap.size) bJ (bZ bJ w0.heap.size (.int .i64 2) (.string ⟨#[]⟩) (.int .i64 0) (.int .i64 (s.size:Int)) (.slice A7 n7 c7)):=by
     unfold bZ;exact(((((aA.refl (fun g=>g=w0.heap.size) bJ).setCell (.inl rfl) _).setCell (.inl rfl) _).setCell (.inl rfl) _).setCell (.inl rfl) _).setCell (.inl rfl) _
    have hkW:=(nC.out.keeps (dB.of_below mi)).keeps (w':=bZ bJ w0.heap.size (.int .i64 2) (.string ⟨#[]⟩) (.int .i64 0) (.int .i64 (s.size:Int)) (.slice A7 n7 c7)) (fun g cs hg hc=>E8.block g (aae.1 hc).1 (by have:=Hm.out;omega));have Kl:=aF.weak (Q:=fun g=>w0.heap.size<=g) (fun g _ hg=>by have:=Hm.out;omega) _ _ (hkW.node 2 (bI []) 0 (s.size:Int));have hlt8:=eB.lt;have hn10':=p8;have hz9:w0.heap.size<=w9.heap.size:=by have:=u7.size;omega
    have Sa:=(oK.since E8 (fun g hg e1=>by have:=(oK.lt g hg).1;have:=u7.size;omega)).mono hz9;have hbW:=E8.toBelow (B:=w0.heap.size) (Nat.le_of_lt hlr) (fun g hg=>by omega);have hlow:=hE.low;have hBW:=((oD.out.trans (P8.below hpw (B:=w0.heap.size) (by have:=Hg.out;have:=HZW.out;omega) hlow)).trans (mi.mono (by omega))).trans hbW;have hds:iE (iL s.data.toList) v8.st.ds=iE (iL s.data.toList) q.ds:=by rw[ic.out,FL.out]
    rw[hds]at Sa p8
    have yS:qE f s.data.toList=some (.node 2 (bI []) 0 (s.size:Int) pR,iE (iL s.data.toList) q.ds):=by
     unfold qE;have:=HP.out;rw[Ta.out,HL.out,HST.out]at this;rw[this,dm]
    have jg:Hid (∃f t ds,qE f s.data.toList=some (t,ds)/\zN w0 t ds (.returned (.tuple #[.agg #[.int .i64 2,.string (bI []),.int .i64 0,.int .i64 (s.size:Int),.slice A7 n7 c7],.slice o5 n10 c10,.int .i64 0])) (bZ bJ w0.heap.size (.int .i64 2) (.string ⟨#[]⟩) (.int .i64 0) (.int .i64 (s.size:Int)) (.slice A7 n7 c7))):=kH ⟨f,_,_,yS,_,_,_,_,_,_,_,_,_,_,rfl,Kl,p8,Sa,hBW⟩
    have WR:ak (bZ bJ w0.heap.size (.int .i64 2) (.string ⟨#[]⟩) (.int .i64 0) (.int .i64 (s.size:Int)) (.slice A7 n7 c7)) w0.heap.size 24 #[.int .i64 2,.string ⟨#[]⟩,.int .i64 0,.int .i64 (s.size:Int),.slice A7 n7 c7]:=by
     have:=((((dV.gY 0 (.int .i64 2)).gY 1 (.string ⟨#[]⟩)).gY 2 (.int .i64 0)).gY 3 (.int .i64 (s.size:Int))).gY 4 (.slice A7 n7 c7);unfold bZ;simpa using this
    clear E8 hkW Kl Sa hbW hBW hds yS mi jW ek u7 oK Sb r0 r1 r2 r3 r4 g0 g1 g2 g3 g4 hS10 hS9 hS0 hc4;generalize bZ bJ w0.heap.size (.int .i64 2) (.string ⟨#[]⟩) (.int .i64 0) (.int .i64 (s.size:Int)) (.slice A7 n7 c7)=WZ at jg WR⊢
    obtain⟨⟨r0,r1,r2,r3,r4⟩,-⟩:=WR.five;rw[<- hn10'];go_wp2_with fail
    refine bodyPost_ret (v:=.tuple #[.agg #[.int .i64 2,.string ⟨#[]⟩,.int .i64 0,.int .i64 (s.size:Int),.slice A7 n7 c7],.slice o5 n10 c10,.int .i64 0]) (by simp[results,Tryz.results37,go_sem,r0,r1,r2,r3,r4]) rfl ?_;exact jg.out
   ·have hki:((k:Int) !=5)=true:=by simp;omega
    have zo:Hid (bP E.l v7.st≠5):=kH (by rw[HK.out];exact hk5);have hX2:=rC.out;rw[if_neg zo.out]at hX2;have HX8:=kH hX2;clear hX2 rC hk5;go_wp2_with fail
    refine(BA E hE v8 _ h8 ic.out [114,101,99,111,114,100] HB1.out).mono ?_;rintro e w9 ⟨rfl,v9,iU,h9,gH⟩;have kL:=kH iU;have fA:=gH.blk h8 eB;have P9:=P8.trans gH;have FQ:=kH (nC.out.keeps (gH.dZ h8));clear iU gH;cases b1
    case true=>
     obtain⟨x10,q10,hx,hnx⟩:∃x q1,nE E.bs E.l gk v7.st=some (x,q1)/\j3 E.bs E.l gk q1 (pR++[x])=some (kids,q):=by
      have:=HX8.out;rw[if_pos HB1.out]at this;split at this
      ·cases this
      ·rename_i x p h;exact⟨x,p,h,this⟩
     have hpr:=EH hE.ends hx (by rw[hE.len];exact IZ) zo.out;have aZ:=kH hnx;have qK:=kH hpr;have hcall:=TE E hE v9 w9 h9 gk (x10,q10) (by rw[kL.out];exact hx) (by rw[kL.out];exact zo.out);have HC:=kH hcall;clear hx hnx hpr hcall;go_wp2_with fail
     refine HC.out.mono ?_;rintro e bJ ⟨k10,t10,Ba,zP,o5,n10,c10,rfl,mQ,v10,gL,h10,fw⟩;have jf:=kH gL;have dV:=fw.blk h9 fA;have jZ:=P9.trans fw;clear gL;obtain⟨vals11,hO11,hTs11,hn11⟩:=FQ.out.keeps (fw.dZ h9);have hTn11:aF bJ (fun g=>w.heap.size<=g/\some g≠(Value.slice A7 n7 c7).ownBlock) _ _:=aF.weak (fun g _ hg=>⟨aac P9.since.size hg,fun e1=>by obtain⟨_,hO4,_,_⟩:=FQ.out;have:=(hO4.lt g e1.symm).2;omega⟩) _ _ mQ;have hrz11:=jZ.since.size;have Zz:=kH hO11;have HTs11:=kH hTs11;have HTn11:=kH hTn11;have Hn11:=kH hn11;clear hO11 hTs11 hTn11 hn11 mQ;go_wp2_with (at_builtin;go_must (refine dP _ rfl (.tmp 48) (.tmp 51) _ rfl (w.heap.size) 24 i0 _ 5 64 Tryz.underlying22 hi0 hz0 hz1 hz2 rfl (.slice A7 n7 c7) n7 (List.flatten vals11) rfl (Zz.out.alloc _) ⟨bJ.heap.size,0,none⟩ 1 1 [.int .i64 k10,.string t10,.int .i64 Ba,.int .i64 zP,.slice o5 n10 c10] rfl rfl (jr _ _ _ _ _ _ _ (by go_simp) (by go_simp) (by go_simp) (by go_simp) (by go_simp)) (by simp[Value.oneCell']) (by simp only[maxLen];omega) (by omega) (by simp;omega) ?_);intro vn jF hown hgrow hat;obtain⟨BN,c11,eG,-,-⟩:=hown.shape;subst eG;have HOWN11:=kH hown;have SX:=kH hgrow;have HAT11:=kH hat;clear hown hgrow hat)
     have FT:=kH (bT.pushed HTs11.out Hn11.out HTn11.out HOWN11.out SX.out HAT11.out);obtain⟨h11,rA,R4⟩:=lK h10 jZ Zz.out (aab _) SX.out;have jq:=R4 _ _ dV (fun e1=>by have:=(Zz.out.lt _ e1).1;have:=Hm.out;omega);clear R4;go_roundg gk
     case measure=>omega
     case rel=>exact⟨BN,n7+1,c11,v10,pR++[x10],rfl,FT.out,by rw[jf.out];exact aZ.out,by rw[jf.out];have:=qK.out.2;have:=xg.out;show n7+1<=q10.k;omega,h11,rA,jq⟩
    go_wp2_with fail
    refine(BA E hE v9 _ h9 kL.out [112,114,111,99] HB2.out).mono ?_;rintro e bJ ⟨rfl,v10,gL,h10,fw⟩;have jf:=kH gL;have dV:=fw.blk h9 fA;have jZ:=P9.trans fw;have rF:=kH (FQ.out.keeps (fw.dZ h9));clear gL fw;cases b2
    case true=>
     obtain⟨DR,Gy,hx,hnx⟩:∃x q1,rX E.bs E.l gk v7.st=some (x,q1)/\j3 E.bs E.l gk q1 (pR++[x])=some (kids,q):=by
      have:=HX8.out;rw[if_neg (by rw[HB1.out];simp),if_pos HB2.out]at this;split at this
      ·cases this
      ·rename_i x p h;exact⟨x,p,h,this⟩
     have hpr:=JN hE.ends hE.empty hx (by rw[hE.len];exact IZ) zo.out;have aZ:=kH hnx;have qK:=kH hpr;have hcall:=Nt E hE gk (answ E hE gk) v10 bJ (DR,Gy) h10 (by rw[jf.out];exact zo.out) (by rw[jf.out];exact hx);have HC:=kH hcall;clear hx hnx hpr hcall;go_wp2_with fail
     refine HC.out.mono ?_;rintro e jF ⟨k11,t11,KM,Jp,BN,n11,c11,rfl,nY,v11,lW,h11,nV⟩;have ni:=kH lW;have jq:=nV.blk h10 dV;have rA:=jZ.trans nV;clear lW;obtain⟨vals12,Qa,hTs12,hn12⟩:=rF.out.keeps (nV.dZ h10);have hTn12:aF jF (fun g=>w.heap.size<=g/\some g≠(Value.slice A7 n7 c7).ownBlock) _ _:=aF.weak (fun g _ hg=>⟨aac jZ.since.size hg,fun e1=>by obtain⟨_,hO4,_,_⟩:=rF.out;have:=(hO4.lt g e1.symm).2;omega⟩) _ _ nY;have hrz12:=rA.since.size;have Jj:=kH Qa;have HTs12:=kH hTs12;have HTn12:=kH hTn12;have Hn12:=kH hn12;clear Qa hTs12 hTn12 hn12 nY;go_wp2_with (at_builtin;go_must (refine dP _ rfl (.tmp 56) (.tmp 59) _ rfl (w.heap.size) 24 i0 _ 5 64 Tryz.underlying22 hi0 hz0 hz1 hz2 rfl (.slice A7 n7 c7) n7 (List.flatten vals12) rfl (Jj.out.alloc _) ⟨jF.heap.size,0,none⟩ 1 1 [.int .i64 k11,.string t11,.int .i64 KM,.int .i64 Jp,.slice BN n11 c11] rfl rfl (jr _ _ _ _ _ _ _ (by go_simp) (by go_simp) (by go_simp) (by go_simp) (by go_simp)) (by simp[Value.oneCell']) (by simp only[maxLen];omega) (by omega) (by simp;omega) ?_);intro vn mW hown hgrow hat;obtain⟨A12,c12,eG,-,-⟩:=hown.shape;subst eG;have HOWN12:=kH hown;have SV:=kH hgrow;have HAT12:=kH hat;clear hown hgrow hat)
     have pq:=kH (bT.pushed HTs12.out Hn12.out HTn12.out HOWN12.out SV.out HAT12.out);obtain⟨h12,mY,R3⟩:=lK h11 rA Jj.out (aab _) SV.out;have je:=R3 _ _ jq (fun e1=>by have:=(Jj.out.lt _ e1).1;have:=Hm.out;omega);clear R3;go_roundg gk
     case measure=>omega
     case rel=>exact⟨A12,n7+1,c12,v11,pR++[DR],rfl,pq.out,by rw[ni.out];exact aZ.out,by rw[ni.out];have:=qK.out.2;have:=xg.out;show n7+1<=Gy.k;omega,h12,mY,je⟩
    obtain⟨q1,hx,hnx⟩:∃q1,nz E.bs E.l gk (iK E.l v7.st 7 [])=some q1/\j3 E.bs E.l gk q1 (pR++[aI E.l q1 v7.st.k 1 [] []])=some (kids,q):=by
     have:=HX8.out;rw[if_neg (by rw[HB1.out];simp),if_neg (by rw[HB2.out];simp)]at this;split at this
     ·cases this
     ·rename_i p h;exact⟨p,h,this⟩
    have hpr:=EM hE.ends hx (by rw[mI,hE.len];exact IZ)
    have hlt:v7.st.k<q1.k:=by
     have:=hpr.2 (by rw[ER,zK,zK,HB1.out,HB2.out];simp;exact zo.out);rw[mI]at this;exact this
    have HX:=kH hx;have aZ:=kH hnx;have KY:=kH hlt;have hk2:bJ.cell? ⟨E.gp,2,none⟩=some (.int .i64 (v10.st.k:Int)):=h10.blk.cell 2;rw[jf.out]at hk2;have hgl10:=h10.blk.lt;clear hx hnx hpr hlt HX8;go_wp2_with fail
    refine(Mi E hE v10 _ h10 jf.out 7 []).mono ?_;rintro e jF ⟨⟨u11,rfl⟩,v11,lW,h11,nV⟩;have ni:=kH lW;have jq:=nV.blk h10 dV;have rA:=jZ.trans nV;have FT:=kH (rF.out.keeps (nV.dZ h10));clear lW nV hk2 hgl10;obtain⟨wo,rfl⟩:∃wo:World,wo=wr:=⟨_,rfl⟩
    obtain⟨go,rfl⟩:∃go:Nat,go=gk:=⟨_,rfl⟩
    go_wp2_with fail
    go_loopg [] go (fun g2 wr=> ∃vx,nz E.bs E.l g2 vx.st=some q1/\PW wr E vx/\PM E w v wr vx/\ak wr w0.heap.size 24 #[.int .i64 0,.string ⟨#[]⟩,.int .i64 0,.int .i64 0,.slice none 0 0]/\bT wr w.heap.size (.slice A7 n7 c7) n7 pR)
    case atStart=>exact⟨v11,by rw[ni.out];exact HX.out,h11,rA,jq,FT.out⟩
    case round=>
     obtain⟨v12,UA,h12,mY,je,hK12⟩:=hrel
     cases gk with
     | zero=>simp[nz]at UA
     | succ gk=>
      rw[nz]at UA;have HX12:=kH UA;have pq:=kH hK12;obtain⟨k',hk'⟩:∃x,bP E.l v12.st=x:=⟨_,rfl⟩
      have HKK:=kH hk';obtain⟨b3,hb3⟩:∃x,bM E.bs E.l v12.st [114,101,99,111,114,100]=x:=⟨_,rfl⟩
      have HB3:=kH hb3;obtain⟨b4,hb4⟩:∃x,bM E.bs E.l v12.st [112,114,111,99]=x:=⟨_,rfl⟩
      have pK:=kH hb4;have hkd:=fun w' (h:PW w' E v12)=>pY E hE v12 w' h
      have his:=fun x w' (h:PW w' E v12)=>yu E hE v12 x w' h
      rw[hk']at hkd;have rE:=kH hkd;have HIS:=kH his;have Tc:=kH h12;obtain⟨bg,hbg⟩:∃x,(decide (k'≠5)&& !b3&& !b4)=x:=⟨_,rfl⟩
      have Yv:=HX12.out;rw[hk',hb3,hb4,hbg]at Yv;have HX13:=kH Yv;have XO:=kH hbg;clear UA hK12 hk' hb3 hb4 hkd his hbg Yv HX12;go_upto_region 8 with fail
      go_cut [36] (fun s36 wx=>s36= .bool bg/\Below wr.heap.size wr wx)
      case first=>
       by_cases hk5:k'=5
       ·have e:bg=false:=by rw[<- XO.out];simp[hk5]
        subst e;have hki:((k':Int) !=5)=false:=by simp;omega
        clear hk5;go_wp2_with fail
        refine(rE.out _ Tc.out).mono ?_;rintro e uC ⟨rfl,jo⟩;go_wp2_with fail
        go_meet
        exact⟨rfl,jo⟩
       ·have e:bg=(!b3&& !b4):=by rw[<- XO.out];simp[hk5]
        subst e;have hki:((k':Int) !=5)=true:=by simp;omega
        clear hk5;go_wp2_with fail
        refine(rE.out _ Tc.out).mono ?_;rintro e uC ⟨rfl,jo⟩;have qf:=Tc.out.below jo;go_wp2_with fail
        refine(HIS.out [114,101,99,111,114,100] _ qf).mono ?_;rintro e xh ⟨rfl,qc⟩;rw[HB3.out];have yE:=qf.below qc;have U5:=jo.trans (qc.mono jo.size);clear qc jo;cases b3
        ·go_wp2_with fail
         refine(HIS.out [112,114,111,99] _ yE).mono ?_;rintro e Gm ⟨rfl,Ao⟩;rw[pK.out];go_wp2_with fail
         go_meet
         exact⟨by simp,U5.trans (Ao.mono U5.size)⟩
        ·go_wp2_with fail
         go_meet
         exact⟨by simp,U5⟩
      case rest=>
       obtain⟨rfl,hbw⟩:=hcut;have h16:=Tc.out.below hbw;have Du:=je.below hbw je.lt;have Xr:=mY.trans (PM.of_below hbw);have ZA:=kH (pq.out.keeps (dB.of_below hbw));cases bg
       ·have hq1:v12.st=q1:=by simpa using HX13.out
        have XE:=kH hq1;clear hbw hq1;go_wp2_with fail
        refine(leaf_to E hE v12 _ h16 XE.out v7.st.k 1 []).mono ?_;rintro e VB ⟨k17,t17,a17,z17,QV,n17,c17,rfl,hT17,v17,EZ,wV,E9⟩;have Jh:=kH EZ;have Fq:=E9.blk h16 Du;have KP:=Xr.trans E9;clear EZ;obtain⟨vals18,hO18,hTs18,hn18⟩:=ZA.out.keeps (E9.dZ h16);have hTn18:aF VB (fun g=>w.heap.size<=g/\some g≠(Value.slice A7 n7 c7).ownBlock) _ _:=aF.weak (fun g _ hg=>⟨aac Xr.since.size hg,fun e1=>by obtain⟨_,hO4,_,_⟩:=ZA.out;have:=(hO4.lt g e1.symm).2;omega⟩) _ _ hT17;have hrz18:=KP.since.size;have Zy:=kH hO18;have HTs18:=kH hTs18;have HTn18:=kH hTn18;have Hn18:=kH hn18;clear hO18 hTs18 hTn18 hn18 hT17;go_wp2_with (at_builtin;go_must (refine dP _ rfl (.tmp 39) (.tmp 43) _ rfl (w.heap.size) 24 i0 _ 5 64 Tryz.underlying22 hi0 hz0 hz1 hz2 rfl (.slice A7 n7 c7) n7 (List.flatten vals18) rfl (Zy.out.alloc _) ⟨VB.heap.size,0,none⟩ 1 1 [.int .i64 k17,.string t17,.int .i64 a17,.int .i64 z17,.slice QV n17 c17] rfl rfl (jr _ _ _ _ _ _ _ (by go_simp) (by go_simp) (by go_simp) (by go_simp) (by go_simp)) (by simp[Value.oneCell']) (by simp only[maxLen];omega) (by omega) (by simp;omega) ?_);intro vn w18 hown hgrow hat;obtain⟨A18,c18,eG,-,-⟩:=hown.shape;subst eG;have HOWN18:=kH hown;have SS:=kH hgrow;have HAT18:=kH hat;clear hown hgrow hat)
        have QL:=kH (bT.pushed HTs18.out Hn18.out HTn18.out HOWN18.out SS.out HAT18.out);obtain⟨h18,P18,RZ⟩:=lK wV KP Zy.out (aab _) SS.out;have Fp:=RZ _ _ Fq (fun e1=>by have:=(Zy.out.lt _ e1).1;have:=Hm.out;omega);clear RZ;go_roundg go
        case measure=>omega
        case rel=>exact⟨A18,n7+1,c18,v17,pR++[aI E.l q1 v7.st.k 1 [] []],rfl,QL.out,by rw[Jh.out];exact aZ.out,by rw[Jh.out];have:=KY.out;have:=xg.out;show n7+1<=q1.k;omega,h18,P18,Fp⟩
       ·have hk5:bP E.l v12.st≠5:=by
         rw[HKK.out];have:=XO.out;simp only[aad,decide_eq_true_eq]at this;exact this.1.1
        have hnx:nz E.bs E.l gk (aC E.l v12.st)=some q1:=by simpa using HX13.out
        have vS:=kH hnx;have HK5':=kH hk5;clear hbw hnx hk5;go_wp2_with fail
        have nK:Hid (v12.st=v12.st):=kH rfl;refine(vJ E hE v12 _ h16 nK.out HK5'.out).mono ?_;rintro e VB ⟨rfl,v17,EZ,wV,E9⟩;have Jh:=kH EZ;have Fq:=E9.blk h16 Du;have KP:=Xr.trans E9;have LH:=kH (ZA.out.keeps (E9.dZ h16));clear EZ E9;go_wp2_with fail
        go_roundg gk
        case measure=>omega
        case rel=>exact⟨v17,by rw[Jh.out];exact vS.out,wV,KP,Fq,LH.out⟩
theorem end_any(E:PE)(hE:E.Ok)(v:PV)(w:World)(hpw:PW w E v)(h5:bP E.l v.st=5):Calls Tryz.prog 75 #[.pointer (some ⟨E.gp,0,none⟩)] w fun e w'=> ∃DA dn dc,e= .returned (.slice DA dn dc)/\dn=(iE (iL E.bs) v.st.ds).length/\aP w' w.heap.size 78 5 (.slice DA dn dc) dn ((iE (iL E.bs) v.st.ds).flatMap cO)/\Below w.heap.size w w':=by
 have H5:=kH h5;clear h5;go_enter Tryz.func75,Tryz.ntmps75
 go_wp2_with fail
 refine(pY E hE v _ hpw).mono ?_;rintro e w8 ⟨rfl,fJ⟩;rw[H5.out];have h8:=hpw.below fJ;go_wp2_with fail
 have hc4:w8.cell? ⟨E.gp,4,none⟩=some v.lv:=h8.blk.cell 4;have hc0:w8.cell? ⟨E.gp,0,none⟩=some (.string E.s):=h8.blk.cell 0;obtain⟨A4,c4,hv4,GX,-⟩:=h8.own.shape;rw[hv4]at hc4;have hlen:=h8.good.len (m:=4096) (by have:=hE.get v.st.k;have:=hE.size;omega);have Dl:=h8.blk.lt;obtain⟨nd,hnd⟩:∃x,v.st.ds.length=x:=⟨_,rfl⟩
 rw[hnd]at hc4 GX hlen;have za:=kH (h8.own.rowAt (cells:=cO) (l:=v.st.ds) hv4 rfl (by intro c _;rfl) rfl);have mD:=kH hnd
 have hll:(iL E.bs).length<=4097:=by
  have:=GG E.bs;have h1:E.bs.length=E.s.size:=by unfold PE.bs;exact dm _
  have:=hE.size;omega
 have KZ:=kH hll;clear hnd hll hv4;refine pO (fun w'=>w'.cell? ⟨E.gp,0,none⟩=some (.string E.s)/\w'.cell? ⟨E.gp,4,none⟩=some (.slice A4 nd c4)) [] [(0,true),(1,true),(2,true),(3,true),(5,true),(6,true),(7,true),(8,true),(4,false),(9,false),(10,false)] (by kernel_rfl) (by kernel_rfl) rfl (by kernel_rfl) ?_;have hS0:w8.drew.cell? ⟨E.gp,0,none⟩=some (.string E.s)/\w8.drew.cell? ⟨E.gp,4,none⟩=some (.slice A4 nd c4):=⟨hc0,hc4⟩
 refine iW (by simp only[aak,aai];rfl) (by rfl) hS0 (by intro w' hSw;obtain⟨hs1,hs2⟩:=hSw;go_simp;rfl) ?_;iterate 7(simp only[Act.put,sA,sZ,sC];refine iW (by simp only[aak,aaj,aai];rfl) (by rfl) hS0 (by intro w' hSw;obtain⟨hs1,hs2⟩:=hSw;go_simp;rfl) ?_)
 simp only[Act.put,sA,sZ,sC];refine rV (by simp only[aak,aaj,aai];rfl) (by rfl) ?_;go_simp
 refine(GH E.s _ hE.size).mono ?_;rintro e w9 ⟨A9,n9,c9,rfl,MB,Sb,ek⟩;have u7:Below w8.heap.size w8 w9:=((Below.refl w8.heap.size w8).drew).trans ek;refine⟨⟨(u7.cell (p:=⟨E.gp,0,none⟩) Dl).trans hc0,(u7.cell (p:=⟨E.gp,4,none⟩) Dl).trans hc4⟩,?_⟩;have hra:=Sb.rowAt (cells:=cO) (l:=iL E.bs) rfl rfl (by intro c _;rfl) MB.symm;obtain⟨_,_,iU,hn9c,-⟩:=Sb.shape;cases iU
 have hn9':(iL E.bs).length=n9:=MB.symm;have hrb:=(za.out.below u7 (aab _)).mono u7.size;have Ph:=JU (iL E.bs) v.st.ds A9 A4 c9 c4 w9 hra hrb (by have:=KZ.out;omega) (by have:=mD.out;omega) (by omega) (by have:=mD.out;omega);rw[mD.out,hn9']at Ph;clear MB hn9';refine rV (by simp only[aak,aaj,aai];rfl) (by rfl) ?_;go_simp
 refine Ph.mono ?_;rintro e bJ ⟨o5,n10,c10,rfl,p8,oK,jW⟩;have mi:Below w8.heap.size w8 bJ:=u7.trans (jW.mono u7.size);refine⟨⟨(mi.cell (p:=⟨E.gp,0,none⟩) Dl).trans hc0,(mi.cell (p:=⟨E.gp,4,none⟩) Dl).trans hc4⟩,?_⟩;refine pQ (w':=bJ) (by simp only[aak,aaj,aai];rfl) (by rfl) (by go_simp;rfl) (fun _=>⟨(mi.cell (p:=⟨E.gp,0,none⟩) Dl).trans hc0,(mi.cell (p:=⟨E.gp,4,none⟩) Dl).trans hc4⟩) ?_;simp only[Act.put,sA,sZ,sC];refine uX ?_;have jg:Hid (∃DA dn dc,Ending.returned (.slice o5 n10 c10)= .returned (.slice DA dn dc)/\dn=(iE (iL E.bs) v.st.ds).length/\aP bJ w.heap.size 78 5 (.slice DA dn dc) dn ((iE (iL E.bs) v.st.ds).flatMap cO)/\Below w.heap.size w bJ):=kH ⟨o5,n10,c10,rfl,p8,oK.mono (by have:=u7.size;have:=fJ.size;omega),fJ.trans (mi.mono fJ.size)⟩;rw[<- p8];clear p8 oK jW mi;go_wp2_with fail
 refine bodyPost_ret (v:=.slice o5 n10 c10) (by simp[results,Tryz.results75,go_sem]) rfl ?_;exact jg.out
theorem Nq(s:ByteArray)(w0:World)(hs:s.size<=4096)(f:Nat)(t:aa)(q:PS)(hf:aO s.data.toList (mG s.data.toList) f .stmt ⟨0,0,[]⟩=some ([t],q))(h5:bP (mG s.data.toList) q=5):
 Calls Tryz.prog 38 #[.string s] w0 (zN w0 t (iE (iL s.data.toList) q.ds)):=by
 have hgt:¬(4096:Int)<s.size:=by omega
 have HF:=kH hf;have H5:=kH h5;clear hf h5;go_enter Tryz.func38,Tryz.ntmps38
 go_wp2_with fail
 generalize hW1:w0.alloc (.cells #[.int .i64 0,.string ⟨#[]⟩,.int .i64 0,.int .i64 0,.slice none 0 0] 24)=W1
 have hb1:Below w0.heap.size w0 W1:=by rw[<- hW1];exact ae _ _
 have hRR:ak W1 w0.heap.size 24 #[.int .i64 0,.string ⟨#[]⟩,.int .i64 0,.int .i64 0,.slice none 0 0]:=by rw[<- hW1];exact ak.new w0 _ _
 refine(Ma s W1 hs).mono ?_;rintro e w ⟨E,v,rfl,hE,hbs,hl,hlo,hst,hpw,hbw⟩;have hR0:=hRR.below hbw hRR.lt;have hgw:w0.heap.size+1<=w.heap.size:=hR0.lt;have oD:=kH (hb1.trans (hbw.mono hb1.size));have Ws:W1.heap.size=w0.heap.size+1:=by rw[<- hW1];simp
 have HZW:=kH Ws;have Hg:=kH hlo;have Ta:=kH hbs;have HL:=kH hl;have Hm:=kH hgw;have hcall:=(answ E hE f).stmt v w t q hpw (by rw[hbs,hl,hst];exact HF.out);have HC:=kH hcall;clear hW1 hb1 hRR hbw hbs hl hlo hst hgw Ws hcall;go_wp2_with fail
 refine HC.out.mono ?_;rintro e w2 ⟨k2,t2,a2,z2,A2,n2,c2,rfl,mP,v2,hv2,h2,hm2⟩;try dsimp only at hv2 mP
 have hR2:=hm2.blk hpw hR0;have iw:=kH hv2;go_wp2_with fail
 generalize hW3:w2.alloc (.cells #[.int .i64 k2,.string t2,.int .i64 a2,.int .i64 z2,.slice A2 n2 c2] 24)=w3
 have hb3:Below w2.heap.size w2 w3:=by rw[<- hW3];exact ae _ _
 have PK:ak w3 w2.heap.size 24 #[.int .i64 k2,.string t2,.int .i64 a2,.int .i64 z2,.slice A2 n2 c2]:=by rw[<- hW3];exact ak.new w2 _ _
 have hl3:=PK.lt;have h3:=h2.below hb3;have dD:=hR2.below hb3 hR2.lt;have kK:=aF.keeps (dB.of_below hb3) _ _ mP;obtain⟨⟨q0,q1,q2,q3,q4⟩,-⟩:=PK.five;have hsz2:=hm2.since.size;have hlow:=hE.low;have Lt:=(oD.out.trans (hm2.below hpw (B:=w0.heap.size) (by have:=Hg.out;have:=HZW.out;omega) hlow)).trans (hb3.mono (by have:=Hm.out;omega));have Vr:=kH Lt;clear hW3 Lt;have hend:=end_any E hE v2 w3.drew (h3.below (Below.refl _ _).drew) (by rw[hv2,HL.out];exact H5.out);rw[hv2,Ta.out]at hend;have bC:=kH hend;clear hend;refine pO (fun w'=>w'.cell? ⟨w2.heap.size,0,none⟩=some (.int .i64 k2)/\w'.cell? ⟨w2.heap.size,1,none⟩=some (.string t2)/\w'.cell? ⟨w2.heap.size,2,none⟩=some (.int .i64 a2)/\w'.cell? ⟨w2.heap.size,3,none⟩=some (.int .i64 z2)/\w'.cell? ⟨w2.heap.size,4,none⟩=some (.slice A2 n2 c2)) [] [(0,true),(1,true),(2,false),(3,false),(4,false),(5,false)] (by kernel_rfl) (by kernel_rfl) rfl (by kernel_rfl) ?_;have hS0:w3.drew.cell? ⟨w2.heap.size,0,none⟩=some (.int .i64 k2)/\w3.drew.cell? ⟨w2.heap.size,1,none⟩=some (.string t2)/\w3.drew.cell? ⟨w2.heap.size,2,none⟩=some (.int .i64 a2)/\w3.drew.cell? ⟨w2.heap.size,3,none⟩=some (.int .i64 z2)/\w3.drew.cell? ⟨w2.heap.size,4,none⟩=some (.slice A2 n2 c2):=⟨q0,q1,q2,q3,q4⟩
 refine iW (by simp only[aak,aai];rfl) (by rfl) hS0 (by intro w' hSw;obtain⟨hs1,hs2,hs3,hs4,hs5⟩:=hSw;go_simp;rfl) ?_;simp only[Act.put,sA,sZ,sC];refine iW (by simp only[aak,aaj,aai];rfl) (by rfl) hS0 (by intro w' hSw;obtain⟨hs1,hs2,hs3,hs4,hs5⟩:=hSw;go_simp;rfl) ?_;simp only[Act.put,sA,sZ,sC];refine rV (by simp only[aak,aaj,aai];rfl) (by rfl) ?_;go_simp
 refine bC.out.mono ?_;rintro e bJ ⟨o5,n10,c10,rfl,p8,oK,jW⟩;have mi:Below w3.heap.size w3 bJ:=((Below.refl w3.heap.size w3).drew).trans jW;refine⟨⟨(mi.cell (p:=⟨w2.heap.size,0,none⟩) hl3).trans q0,(mi.cell (p:=⟨w2.heap.size,1,none⟩) hl3).trans q1,(mi.cell (p:=⟨w2.heap.size,2,none⟩) hl3).trans q2,(mi.cell (p:=⟨w2.heap.size,3,none⟩) hl3).trans q3,(mi.cell (p:=⟨w2.heap.size,4,none⟩) hl3).trans q4⟩,?_⟩;have dV:=dD.below mi dD.lt;obtain⟨⟨r0,r1,r2,r3,r4⟩,g0,g1,g2,g3,g4⟩:=dV.five;have hlr:=dV.lt;have hlr3:=dD.lt;have hlr2:=hR2.lt;have hl10:w2.heap.size<bJ.heap.size:=Nat.lt_of_lt_of_le hl3 mi.size
 have E8:aA (fun g=>g=w0.heap.size) bJ (bZ bJ w0.heap.size (.int .i64 k2) (.string t2) (.int .i64 a2) (.int .i64 z2) (.slice A2 n2 c2)):=by
  unfold bZ;exact(((((aA.refl (fun g=>g=w0.heap.size) bJ).setCell (.inl rfl) _).setCell (.inl rfl) _).setCell (.inl rfl) _).setCell (.inl rfl) _).setCell (.inl rfl) _
 have hSW:(bZ bJ w0.heap.size (.int .i64 k2) (.string t2) (.int .i64 a2) (.int .i64 z2) (.slice A2 n2 c2)).cell? ⟨w2.heap.size,0,none⟩=some (.int .i64 k2)/\(bZ bJ w0.heap.size (.int .i64 k2) (.string t2) (.int .i64 a2) (.int .i64 z2) (.slice A2 n2 c2)).cell? ⟨w2.heap.size,1,none⟩=some (.string t2)/\(bZ bJ w0.heap.size (.int .i64 k2) (.string t2) (.int .i64 a2) (.int .i64 z2) (.slice A2 n2 c2)).cell? ⟨w2.heap.size,2,none⟩=some (.int .i64 a2)/\(bZ bJ w0.heap.size (.int .i64 k2) (.string t2) (.int .i64 a2) (.int .i64 z2) (.slice A2 n2 c2)).cell? ⟨w2.heap.size,3,none⟩=some (.int .i64 z2)/\(bZ bJ w0.heap.size (.int .i64 k2) (.string t2) (.int .i64 a2) (.int .i64 z2) (.slice A2 n2 c2)).cell? ⟨w2.heap.size,4,none⟩=some (.slice A2 n2 c2):=by
  have hX10:=(PK.below mi hl3).since E8 (by omega);exact hX10.five.1
 have Kl:=aF.keeps (dB.of_below mi) _ _ kK;replace Kl:=aF.keeps (w':=(bZ bJ w0.heap.size (.int .i64 k2) (.string t2) (.int .i64 a2) (.int .i64 z2) (.slice A2 n2 c2))) (fun g cs hg hc=>E8.block g (aae.1 hc).1 (by have:=Hm.out;omega)) _ _ Kl
 replace Kl:=aF.weak (Q:=fun g=>w0.heap.size<=g) (fun g _ hg=>by have:=Hm.out;omega) _ _ Kl
 have Sa:=(oK.since E8 (fun g hg e1=>by have h1:=(oK.lt g hg).1;have h3:w3.drew.heap.size=w3.heap.size:=rfl;omega)).mono (base':=w0.heap.size) (by have h3:w3.drew.heap.size=w3.heap.size:=rfl;omega);have hBW:=(Vr.out.trans (mi.mono (by omega))).trans (E8.toBelow (B:=w0.heap.size) (by omega) (fun g hg=>by omega))
 have WR:ak (bZ bJ w0.heap.size (.int .i64 k2) (.string t2) (.int .i64 a2) (.int .i64 z2) (.slice A2 n2 c2)) w0.heap.size 24 #[.int .i64 k2,.string t2,.int .i64 a2,.int .i64 z2,.slice A2 n2 c2]:=by
  have:=((((dV.gY 0 (.int .i64 k2)).gY 1 (.string t2)).gY 2 (.int .i64 a2)).gY 3 (.int .i64 z2)).gY 4 (.slice A2 n2 c2);unfold bZ;simpa using this
 have jg:Hid (zN w0 t (iE (iL s.data.toList) q.ds) (.returned (.tuple #[.agg #[.int .i64 k2,.string t2,.int .i64 a2,.int .i64 z2,.slice A2 n2 c2],.slice o5 n10 c10,.int .i64 0])) (bZ bJ w0.heap.size (.int .i64 k2) (.string t2) (.int .i64 a2) (.int .i64 z2) (.slice A2 n2 c2))):=kH ⟨_,_,_,_,_,_,_,_,_,_,rfl,Kl,p8,Sa,hBW⟩;refine LU (w':=(bZ bJ w0.heap.size (.int .i64 k2) (.string t2) (.int .i64 a2) (.int .i64 z2) (.slice A2 n2 c2))) (by simp only[aak,aaj,aai];rfl) (by rfl) (by unfold bZ;go_simp) (fun _=>hSW) ?_;simp only[Act.put];iterate 2(refine pQ (w':=(bZ bJ w0.heap.size (.int .i64 k2) (.string t2) (.int .i64 a2) (.int .i64 z2) (.slice A2 n2 c2))) (by simp only[aak,aaj,aai];rfl) (by rfl) (by go_simp;rfl) (fun _=>hSW) ?_;simp only[Act.put,sA,sZ,sC])
 refine uX ?_;rw[<- p8];clear p8 oK jW mi E8 hSW Kl Sa hBW r0 r1 r2 r3 r4 g0 g1 g2 g3 g4 hS0;generalize bZ bJ w0.heap.size (.int .i64 k2) (.string t2) (.int .i64 a2) (.int .i64 z2) (.slice A2 n2 c2)=WZ at jg WR⊢
 obtain⟨⟨r0,r1,r2,r3,r4⟩,-⟩:=WR.five;go_wp2_with fail
 refine bodyPost_ret (v:=.tuple #[.agg #[.int .i64 k2,.string t2,.int .i64 a2,.int .i64 z2,.slice A2 n2 c2],.slice o5 n10 c10,.int .i64 0]) (by simp[results,Tryz.results38,go_sem,r0,r1,r2,r3,r4]) rfl ?_;exact jg.out
end Go.Proofs.YtoepemlnlpamlaaGreat
