/- The law NamesResolves holds where what it reads is of bulk at most 1048576: it returns true, and its argument reads as before. Part 15: Parse Stat. -/
import Derived.Test.YtoepemlnlpamlaaGreatReso14
set_option maxRecDepth 100000
set_option maxHeartbeats 4000000
namespace Go.Proofs.YtoepemlnlpamlaaGreat
open Go.RowKit
section
variable {s:aZ}{l:List jY}
theorem Qb(he:nU l){f:Nat}{p:PS}{x:ae}{q:PS}(h:o7 s l f p=some (x,q))(hp:p.k<l.length)(h5:bM l p≠5):Le l p q/\p.k<q.k:=by
 obtain⟨f0,x0,q0,h0,h1,h2⟩:=KM (s:=s) he hp h5;have e1:=jO (F:=fun f=>o7 s l f p) (fun f y h=>wH f _ y h) (Nat.le_max_left f f0) h;have e2:=jO (F:=fun f=>o7 s l f p) (fun f y h=>wH f _ y h) (Nat.le_max_right f f0) h0;rw[e1]at e2;cases e2
 exact⟨h1,h2⟩
theorem VE(he:nU l)(hend:qH s l){f:Nat}{p:PS}{x:ae}{q:PS}(h:uD s l f p=some (x,q))(hp:p.k<l.length)(h5:bM l p≠5):Le l p q/\p.k<q.k:=by
 obtain⟨f0,x0,q0,h0,h1,h2⟩:=Qp (s:=s) he hend hp h5;have e1:=jO (F:=fun f=>uD s l f p) (fun f y h=>zG f _ y h) (Nat.le_max_left f f0) h;have e2:=jO (F:=fun f=>uD s l f p) (fun f y h=>zG f _ y h) (Nat.le_max_right f f0) h0;rw[e1]at e2;cases e2
 exact⟨h1,h2⟩
theorem Qx(he:nU l){f:Nat}{p:PS}{q:PS}(h:mX s l f p=some q)(hp:p.k<l.length):Le l p q/\((decide (bM l p≠5)&& !bE s l p [114,101,99,111,114,100]&& !bE s l p [112,114,111,99])=true->p.k<q.k):=by
 obtain⟨f0,q0,h0,h1,h2⟩:=ND (s:=s) he (l.length) p hp (by omega);have e1:=jO (F:=fun f=>mX s l f p) (fun f y h=>yw f _ y h) (Nat.le_max_left f f0) h;have e2:=jO (F:=fun f=>mX s l f p) (fun f y h=>yw f _ y h) (Nat.le_max_right f f0) h0;rw[e1]at e2;cases e2
 exact⟨h1,h2⟩
end
def zU(w0:World)(t:ae)(ds:List Dg)(e:Ending)(w':World):Prop:=
 ∃k x a z A n c DA dn dc,e= .returned (.tuple #[.agg #[.int .i64 k,.string x,.int .i64 a,.int .i64 z,.slice A n c],.slice DA dn dc,.int .i64 0])/\aB w' (fun g=>w0.heap.size<=g) t [.int .i64 k,.string x,.int .i64 a,.int .i64 z,.slice A n c]/\dn=ds.length/\aL w' w0.heap.size 78 5 (.slice DA dn dc) dn (ds.flatMap bC)/\Below w0.heap.size w0 w'
theorem leaf_to(E:PE)(hE:E.Ok)(v:PV)(w:World)(hpw:PW w E v){p:PS}(hst:v.st=p)(first:Nat)(kind:Int)(t:aZ):
 Calls Tryz.prog 71 #[.pointer (some ⟨E.gp,0,none⟩),.int .i64 (first:Int),.int .i64 kind,.string (aX t),.slice none 0 0] w (bB E w v (aH E.l p first kind t [],p)):=by
 subst hst;refine(iG E hE v w hpw first kind t w.heap.size).mono ?_;rintro e w' ⟨rfl,hb,hT⟩;exact⟨_,_,_,_,_,_,_,rfl,hT,v,rfl,hpw.below hb,PM.of_below hb⟩
theorem Ik(s:aZ):(iF s).length<=s.length+1:=abF (List.length_filterMap_le _ _) (Cf s)
theorem XX(s:ByteArray)(w0:World)(hs:s.size<=4096):Calls Tryz.prog 37 #[.string s] w0 fun e w'=> ∃f t ds,sP f s.data.toList=some (t,ds)/\zU w0 t ds e w':=by
 obtain⟨i0,hi0,hz0,hz1,hz2⟩:=info_parts rP;have hgt:¬(4096:Int)<s.size:=by omega
 go_enter Tryz.func37,Tryz.ntmps37
 go_wp2_with fail
 generalize hW1:w0.alloc (.cells #[.int .i64 0,.string ⟨#[]⟩,.int .i64 0,.int .i64 0,.slice none 0 0] 24)=W1
 have hb1:Below w0.heap.size w0 W1:=by rw[<- hW1];exact ag _ _
 have hRR:ai W1 w0.heap.size 24 #[.int .i64 0,.string ⟨#[]⟩,.int .i64 0,.int .i64 0,.slice none 0 0]:=by rw[<- hW1];exact ai.new w0 _ _
 refine(Ns s W1 hs).mono ?_;rintro e w ⟨E,v,rfl,hE,hbs,hl,hlo,hst,hpw,hbw⟩;have hR0:=hRR.below hbw hRR.lt;have hgw:w0.heap.size+1<=w.heap.size:=hR0.lt;have qf:=kH (hb1.trans (hbw.mono hb1.size));obtain⟨f,kids,q,hP⟩:=Z9 hE.ends hE.empty (E.l.length) v.st [] (by rw[hE.len];exact hpw.at_) (by omega);have HP:=kH hP;have UL:=kH hbs;have HL:=kH hl;have IY:=kH hlo;have HST:=kH hst;have I4:=kH hgw;have Yr:W1.heap.size=w0.heap.size+1:=by rw[<- hW1];simp
 have HZW:=kH Yr;clear hW1 hb1 hRR hbw hP hbs hl hlo hst hgw Yr;have hgl:=hpw.blk.lt;go_wp2_with fail
 generalize AQ:w.alloc (.cells #[] 24)=w2
 have hb2:Below w.heap.size w w2:=by rw[<- AQ];exact ag _ _
 have hK2:bV w2 w.heap.size (.slice (some ⟨w.heap.size,0,none⟩) 0 0) 0 []:=by
  refine⟨[],?_,rfl,rfl⟩;have hn:=ai.new w 24 #[];rw[AQ]at hn;exact aL.block (n:=0) (cur:=#[]) (abE _) hn (by simp[maxLen]) rfl
 have h2:=hpw.below hb2;have P2:=PM.of_below (E:=E) (v:=v) hb2;have hR2:=hR0.below hb2 (by have:=I4.out;omega);have I1:=kH hK2;clear AQ hb2 hK2 hR0;go_loopg [6] f (fun gk s6 wr=> ∃A n c vx ts,s6= .slice A n c/\bV wr w.heap.size (.slice A n c) n ts/\mf E.bs E.l gk vx.st ts=some (kids,q)/\n<=vx.st.k/\PW wr E vx/\PM E w v wr vx/\ai wr w0.heap.size 24 #[.int .i64 0,.string ⟨#[]⟩,.int .i64 0,.int .i64 0,.slice none 0 0])
 case atStart=>exact⟨_,0,_,v,[],rfl,I1.out,HP.out,Nat.zero_le _,h2,P2,hR2⟩
 case round=>
  obtain⟨A7,n7,c7,v7,pq,rfl,BN,hx7,xI,h7,P7,eZ⟩:=hrel
  cases gk with
  | zero=>simp[mf]at hx7
  | succ gk=>
   rw[mf]at hx7;have rF:=kH hx7;have Mx:=kH BN;have JR:=h7.at_;have zJ:=hE.most;have QX:n7<=5001:=by omega
   obtain⟨k,hk⟩:∃x,bM E.l v7.st=x:=⟨_,rfl⟩
   have HK:=kH hk;obtain⟨b1,hb1⟩:∃x,bE E.bs E.l v7.st [114,101,99,111,114,100]=x:=⟨_,rfl⟩
   have HB1:=kH hb1;obtain⟨b2,hb2⟩:∃x,bE E.bs E.l v7.st [112,114,111,99]=x:=⟨_,rfl⟩
   have HB2:=kH hb2;have xE:=kH xI;clear hx7 BN hk hb1 hb2 xI;go_wp2_with fail
   have lh:Hid (v7.st=v7.st):=kH rfl;refine(vT E hE v7 _ h7 lh.out HK.out).mono ?_;rintro e w8 ⟨rfl,v8,dV,h8,dS⟩;have gL:=kH dV;have eB:=dS.blk h7 eZ;have P8:=P7.trans dS;have ng:=kH (Mx.out.keeps (dS.dR h7));clear dV dS;by_cases hk5:k=5
   ·subst hk5
    have hkk:pq=kids/\v7.st=q:=by
     have:=rF.out;rw[if_pos HK.out]at this;simpa using this
    obtain⟨rfl,yL⟩:=hkk;have Gt:=kH yL;clear yL;go_wp2_with fail
    have hc4:w8.cell? ⟨E.gp,4,none⟩=some v8.lv:=h8.blk.cell 4;obtain⟨A4,c4,hv4,hn4,-⟩:=h8.own.shape;rw[hv4]at hc4;have hlen:=h8.good.len (m:=4096) (by have:=hE.get v8.st.k;have:=hE.size;omega);have Ea:=h8.blk.lt;obtain⟨nd,hnd⟩:∃x,v8.st.ds.length=x:=⟨_,rfl⟩
    rw[hnd]at hc4 hn4 hlen;have hrow:=h8.own.rowAt (cells:=bC) (l:=v8.st.ds) hv4 rfl (by intro c _;rfl) rfl;have Kk:=kH hrow;have lC:=kH hnd;have hll:=Ik s.data.toList;rw[bP]at hll;have Mw:=kH hll;clear hrow hnd hll hv4;refine o9 (fun w'=>w'.cell? ⟨E.gp,4,none⟩=some (.slice A4 nd c4)) [] [(0,true),(1,true),(2,true),(3,true),(4,true),(6,true),(7,true),(8,true),(9,true),(5,false),(10,false),(11,false),(12,false),(13,false)] (by kernel_rfl) (by kernel_rfl) rfl (by kernel_rfl) ?_;have hS0:w8.drew.cell? ⟨E.gp,4,none⟩=some (.slice A4 nd c4):=hc4;refine iP (by simp only[abN,abL];rfl) (by rfl) hS0 (by intro w' hSw;go_simp;rfl) ?_;iterate 8(simp only[Act.put,sA,sZ,sC];refine iP (by simp only[abN,abM,abL];rfl) (by rfl) hS0 (by intro w' hSw;go_simp;rfl) ?_)
    simp only[Act.put,sA,sZ,sC];refine sj (by simp only[abN,abM,abL];rfl) (by rfl) ?_;go_simp
    refine(Il s _ hs).mono ?_;rintro e w9 ⟨A9,n9,c9,rfl,YB,Ug,fA⟩;have hS9:w9.cell? ⟨E.gp,4,none⟩=some (.slice A4 nd c4):=(fA.cell (p:=⟨E.gp,4,none⟩) Ea).trans hc4;refine⟨hS9,?_⟩;have vG:Below w8.heap.size w8 w9:=((Below.refl w8.heap.size w8).drew).trans fA;have hra:=Ug.rowAt (cells:=bC) (l:=iF s.data.toList) rfl rfl (by intro c _;rfl) YB.symm;obtain⟨_,_,gV,hn9c,-⟩:=Ug.shape;cases gV
    have hrb:=(Kk.out.below vG (abE _)).mono vG.size;have QY:=K8 (iF s.data.toList) v8.st.ds A9 A4 c9 c4 w9 hra hrb (by have:=Mw.out;omega) (by have:=lC.out;omega) (by omega) (by have:=lC.out;omega);rw[lC.out]at QY;refine sj (by simp only[abN,abM,abL];rfl) (by rfl) ?_;go_simp
    refine QY.mono ?_;rintro e bA ⟨oL,n10,c10,rfl,pJ,oC,jD⟩;have lS:Below w8.heap.size w8 bA:=vG.trans (jD.mono vG.size);have hS10:bA.cell? ⟨E.gp,4,none⟩=some (.slice A4 nd c4):=(lS.cell (p:=⟨E.gp,4,none⟩) Ea).trans hc4;refine⟨hS10,?_⟩;have dK:=eB.below lS eB.lt;obtain⟨⟨r0,r1,r2,r3,r4⟩,g0,g1,g2,g3,g4⟩:=dK.five
    have hne10:E.gp≠w0.heap.size:=by
     have h1:=hE.low;have h3:=IY.out;have h4:=HZW.out;omega
    have hlr:=dK.lt;refine Ng (w':=ek bA w0.heap.size (.int .i64 2) (.string ⟨#[]⟩) (.int .i64 0) (.int .i64 (s.size:Int)) (.slice A7 n7 c7)) (by simp only[abN,abM,abL];rfl) (by rfl) (by unfold ek;go_simp) (fun _=>by unfold ek;go_simp) ?_;simp only[Act.put];iterate 2(refine pg (w':=ek bA w0.heap.size (.int .i64 2) (.string ⟨#[]⟩) (.int .i64 0) (.int .i64 (s.size:Int)) (.slice A7 n7 c7)) (by simp only[abN,abM,abL];rfl) (by rfl) (by go_simp;rfl) (fun _=>by unfold ek;go_simp) ?_;simp only[Act.put,sA,sZ,sC])
    refine vC ?_
    have FO:aF (fun g=>g=w0.heap.size) bA (ek bA w0.heap.size (.int .i64 2) (.string ⟨#[]⟩) (.int .i64 0) (.int .i64 (s.size:Int)) (.slice A7 n7 c7)):=by
     unfold ek;exact(((((aF.refl (fun g=>g=w0.heap.size) bA).setCell (.inl rfl) _).setCell (.inl rfl) _).setCell (.inl rfl) _).setCell (.inl rfl) _).setCell (.inl rfl) _
    have hkW:=(ng.out.keeps (bW.of_below lS)).keeps (w':=ek bA w0.heap.size (.int .i64 2) (.string ⟨#[]⟩) (.int .i64 0) (.int .i64 (s.size:Int)) (.slice A7 n7 c7)) (fun g cs hg hc=>FO.block g (abH.1 hc).1 (by have:=I4.out;omega));have LH:=aB.weak (Q:=fun g=>w0.heap.size<=g) (fun g _ hg=>by have:=I4.out;omega) _ _ (hkW.node 2 (aX []) 0 (s.size:Int));have hlt8:=eB.lt;have hn10':=pJ;have hz9:w0.heap.size<=w9.heap.size:=by have:=vG.size;omega
    have Uf:=(oC.since FO (fun g hg e1=>by have:=(oC.lt g hg).1;have:=vG.size;omega)).mono hz9;have hbW:=FO.toBelow (B:=w0.heap.size) (Nat.le_of_lt hlr) (fun g hg=>by omega);have hlow:=hE.low;have hBW:=((qf.out.trans (P8.below hpw (B:=w0.heap.size) (by have:=IY.out;have:=HZW.out;omega) hlow)).trans (lS.mono (by omega))).trans hbW;have hds:ib (iF s.data.toList) v8.st.ds=ib (iF s.data.toList) q.ds:=by rw[gL.out,Gt.out]
    rw[hds]at Uf pJ
    have za:sP f s.data.toList=some (.node 2 (aX []) 0 (s.size:Int) pq,ib (iF s.data.toList) q.ds):=by
     unfold sP;have:=HP.out;rw[UL.out,HL.out,HST.out]at this;rw[this,bP]
    have iw:Hid (∃f t ds,sP f s.data.toList=some (t,ds)/\zU w0 t ds (.returned (.tuple #[.agg #[.int .i64 2,.string (aX []),.int .i64 0,.int .i64 (s.size:Int),.slice A7 n7 c7],.slice oL n10 c10,.int .i64 0])) (ek bA w0.heap.size (.int .i64 2) (.string ⟨#[]⟩) (.int .i64 0) (.int .i64 (s.size:Int)) (.slice A7 n7 c7))):=kH ⟨f,_,_,za,_,_,_,_,_,_,_,_,_,_,rfl,LH,pJ,Uf,hBW⟩
    have YM:ai (ek bA w0.heap.size (.int .i64 2) (.string ⟨#[]⟩) (.int .i64 0) (.int .i64 (s.size:Int)) (.slice A7 n7 c7)) w0.heap.size 24 #[.int .i64 2,.string ⟨#[]⟩,.int .i64 0,.int .i64 (s.size:Int),.slice A7 n7 c7]:=by
     have:=((((dK.fM 0 (.int .i64 2)).fM 1 (.string ⟨#[]⟩)).fM 2 (.int .i64 0)).fM 3 (.int .i64 (s.size:Int))).fM 4 (.slice A7 n7 c7);unfold ek;simpa using this
    clear FO hkW LH Uf hbW hBW hds za lS jD fA vG oC Ug r0 r1 r2 r3 r4 g0 g1 g2 g3 g4 hS10 hS9 hS0 hc4;generalize ek bA w0.heap.size (.int .i64 2) (.string ⟨#[]⟩) (.int .i64 0) (.int .i64 (s.size:Int)) (.slice A7 n7 c7)=WZ at iw YM⊢
    obtain⟨⟨r0,r1,r2,r3,r4⟩,-⟩:=YM.five;rw[<- hn10'];go_wp2_with fail
    refine bodyPost_ret (v:=.tuple #[.agg #[.int .i64 2,.string ⟨#[]⟩,.int .i64 0,.int .i64 (s.size:Int),.slice A7 n7 c7],.slice oL n10 c10,.int .i64 0]) (by simp[results,Tryz.results37,go_sem,r0,r1,r2,r3,r4]) rfl ?_;exact iw.out
   ·have hki:((k:Int) !=5)=true:=by simp;omega
    have xL:Hid (bM E.l v7.st≠5):=kH (by rw[HK.out];exact hk5);have hX2:=rF.out;rw[if_neg xL.out]at hX2;have HX8:=kH hX2;clear hX2 rF hk5;go_wp2_with fail
    refine(BF E hE v8 _ h8 gL.out [114,101,99,111,114,100] HB1.out).mono ?_;rintro e w9 ⟨rfl,v9,gV,h9,fU⟩;have jZ:=kH gV;have eY:=fU.blk h8 eB;have P9:=P8.trans fU;have Gx:=kH (ng.out.keeps (fU.dR h8));clear gV fU;cases b1
    case true=>
     obtain⟨x10,q10,hx,hnx⟩:∃x q1,o7 E.bs E.l gk v7.st=some (x,q1)/\mf E.bs E.l gk q1 (pq++[x])=some (kids,q):=by
      have:=HX8.out;rw[if_pos HB1.out]at this;split at this
      ·cases this
      ·rename_i x p h;exact⟨x,p,h,this⟩
     have hpr:=Qb hE.ends hx (by rw[hE.len];exact JR) xL.out;have bF:=kH hnx;have qF:=kH hpr;have hcall:=Va E hE v9 w9 h9 gk (x10,q10) (by rw[jZ.out];exact hx) (by rw[jZ.out];exact xL.out);have HC:=kH hcall;clear hx hnx hpr hcall;go_wp2_with fail
     refine HC.out.mono ?_;rintro e bA ⟨k10,t10,Bc,zV,oL,n10,c10,rfl,mq,v10,fZ,h10,eH⟩;have iX:=kH fZ;have dK:=eH.blk h9 eY;have jG:=P9.trans eH;clear fZ;obtain⟨vals11,hO11,hTs11,hn11⟩:=Gx.out.keeps (eH.dR h9);have hTn11:aB bA (fun g=>w.heap.size<=g/\some g≠(Value.slice A7 n7 c7).ownBlock) _ _:=aB.weak (fun g _ hg=>⟨abF P9.since.size hg,fun e1=>by obtain⟨_,hO4,_,_⟩:=Gx.out;have:=(hO4.lt g e1.symm).2;omega⟩) _ _ mq;have hrz11:=jG.since.size;have abu:=kH hO11;have HTs11:=kH hTs11;have HTn11:=kH hTn11;have Hn11:=kH hn11;clear hO11 hTs11 hTn11 hn11 mq;go_wp2_with (at_builtin;go_must (refine dm _ rfl (.tmp 48) (.tmp 51) _ rfl (w.heap.size) 24 i0 _ 5 64 Tryz.underlying22 hi0 hz0 hz1 hz2 rfl (.slice A7 n7 c7) n7 (List.flatten vals11) rfl (abu.out.alloc _) ⟨bA.heap.size,0,none⟩ 1 1 [.int .i64 k10,.string t10,.int .i64 Bc,.int .i64 zV,.slice oL n10 c10] rfl rfl (jd _ _ _ _ _ _ _ (by go_simp) (by go_simp) (by go_simp) (by go_simp) (by go_simp)) (by simp[Value.oneCell']) (by simp only[maxLen];omega) (by omega) (by simp;omega) ?_);intro vn ji hown hgrow hat;obtain⟨BX,c11,nC,-,-⟩:=hown.shape;subst nC;have HOWN11:=kH hown;have UI:=kH hgrow;have HAT11:=kH hat;clear hown hgrow hat)
     have Gz:=kH (bV.pushed HTs11.out Hn11.out HTn11.out HOWN11.out UI.out HAT11.out);obtain⟨h11,rE,TZ⟩:=kM h10 jG abu.out (abE _) UI.out;have jc:=TZ _ _ dK (fun e1=>by have:=(abu.out.lt _ e1).1;have:=I4.out;omega);clear TZ;go_roundg gk
     case measure=>omega
     case rel=>exact⟨BX,n7+1,c11,v10,pq++[x10],rfl,Gz.out,by rw[iX.out];exact bF.out,by rw[iX.out];have:=qF.out.2;have:=xE.out;show n7+1<=q10.k;omega,h11,rE,jc⟩
    go_wp2_with fail
    refine(BF E hE v9 _ h9 jZ.out [112,114,111,99] HB2.out).mono ?_;rintro e bA ⟨rfl,v10,fZ,h10,eH⟩;have iX:=kH fZ;have dK:=eH.blk h9 eY;have jG:=P9.trans eH;have rG:=kH (Gx.out.keeps (eH.dR h9));clear fZ eH;cases b2
    case true=>
     obtain⟨ED,Ib,hx,hnx⟩:∃x q1,uD E.bs E.l gk v7.st=some (x,q1)/\mf E.bs E.l gk q1 (pq++[x])=some (kids,q):=by
      have:=HX8.out;rw[if_neg (by rw[HB1.out];simp),if_pos HB2.out]at this;split at this
      ·cases this
      ·rename_i x p h;exact⟨x,p,h,this⟩
     have hpr:=VE hE.ends hE.empty hx (by rw[hE.len];exact JR) xL.out;have bF:=kH hnx;have qF:=kH hpr;have hcall:=OP E hE gk (answ E hE gk) v10 bA (ED,Ib) h10 (by rw[iX.out];exact xL.out) (by rw[iX.out];exact hx);have HC:=kH hcall;clear hx hnx hpr hcall;go_wp2_with fail
     refine HC.out.mono ?_;rintro e ji ⟨k11,t11,Mi,Kr,BX,n11,c11,rfl,nR,v11,lG,h11,nP⟩;have mR:=kH lG;have jc:=nP.blk h10 dK;have rE:=jG.trans nP;clear lG;obtain⟨vals12,Rv,hTs12,hn12⟩:=rG.out.keeps (nP.dR h10);have hTn12:aB ji (fun g=>w.heap.size<=g/\some g≠(Value.slice A7 n7 c7).ownBlock) _ _:=aB.weak (fun g _ hg=>⟨abF jG.since.size hg,fun e1=>by obtain⟨_,hO4,_,_⟩:=rG.out;have:=(hO4.lt g e1.symm).2;omega⟩) _ _ nR;have hrz12:=rE.since.size;have Kl:=kH Rv;have HTs12:=kH hTs12;have HTn12:=kH hTn12;have Hn12:=kH hn12;clear Rv hTs12 hTn12 hn12 nR;go_wp2_with (at_builtin;go_must (refine dm _ rfl (.tmp 56) (.tmp 59) _ rfl (w.heap.size) 24 i0 _ 5 64 Tryz.underlying22 hi0 hz0 hz1 hz2 rfl (.slice A7 n7 c7) n7 (List.flatten vals12) rfl (Kl.out.alloc _) ⟨ji.heap.size,0,none⟩ 1 1 [.int .i64 k11,.string t11,.int .i64 Mi,.int .i64 Kr,.slice BX n11 c11] rfl rfl (jd _ _ _ _ _ _ _ (by go_simp) (by go_simp) (by go_simp) (by go_simp) (by go_simp)) (by simp[Value.oneCell']) (by simp only[maxLen];omega) (by omega) (by simp;omega) ?_);intro vn mJ hown hgrow hat;obtain⟨A12,c12,nC,-,-⟩:=hown.shape;subst nC;have HOWN12:=kH hown;have UH:=kH hgrow;have HAT12:=kH hat;clear hown hgrow hat)
     have oV:=kH (bV.pushed HTs12.out Hn12.out HTn12.out HOWN12.out UH.out HAT12.out);obtain⟨h12,mO,TY⟩:=kM h11 rE Kl.out (abE _) UH.out;have iW:=TY _ _ jc (fun e1=>by have:=(Kl.out.lt _ e1).1;have:=I4.out;omega);clear TY;go_roundg gk
     case measure=>omega
     case rel=>exact⟨A12,n7+1,c12,v11,pq++[ED],rfl,oV.out,by rw[mR.out];exact bF.out,by rw[mR.out];have:=qF.out.2;have:=xE.out;show n7+1<=Ib.k;omega,h12,mO,iW⟩
    obtain⟨q1,hx,hnx⟩:∃q1,mX E.bs E.l gk (iE E.l v7.st 7 [])=some q1/\mf E.bs E.l gk q1 (pq++[aH E.l q1 v7.st.k 1 [] []])=some (kids,q):=by
     have:=HX8.out;rw[if_neg (by rw[HB1.out];simp),if_neg (by rw[HB2.out];simp)]at this;split at this
     ·cases this
     ·rename_i p h;exact⟨p,h,this⟩
    have hpr:=Qx hE.ends hx (by rw[wG,hE.len];exact JR)
    have hlt:v7.st.k<q1.k:=by
     have:=hpr.2 (by rw[NH,G5,G5,HB1.out,HB2.out];simp;exact xL.out);rw[wG]at this;exact this
    have HX:=kH hx;have bF:=kH hnx;have Gw:=kH hlt;have hk2:bA.cell? ⟨E.gp,2,none⟩=some (.int .i64 (v10.st.k:Int)):=h10.blk.cell 2;rw[iX.out]at hk2;have hgl10:=h10.blk.lt;clear hx hnx hpr hlt HX8;go_wp2_with fail
    refine(Ny E hE v10 _ h10 iX.out 7 []).mono ?_;rintro e ji ⟨⟨u11,rfl⟩,v11,lG,h11,nP⟩;have mR:=kH lG;have jc:=nP.blk h10 dK;have rE:=jG.trans nP;have Gz:=kH (rG.out.keeps (nP.dR h10));clear lG nP hk2 hgl10;obtain⟨wo,rfl⟩:∃wo:World,wo=wr:=⟨_,rfl⟩
    obtain⟨go,rfl⟩:∃go:Nat,go=gk:=⟨_,rfl⟩
    go_wp2_with fail
    go_loopg [] go (fun g2 wr=> ∃vx,mX E.bs E.l g2 vx.st=some q1/\PW wr E vx/\PM E w v wr vx/\ai wr w0.heap.size 24 #[.int .i64 0,.string ⟨#[]⟩,.int .i64 0,.int .i64 0,.slice none 0 0]/\bV wr w.heap.size (.slice A7 n7 c7) n7 pq)
    case atStart=>exact⟨v11,by rw[mR.out];exact HX.out,h11,rE,jc,Gz.out⟩
    case round=>
     obtain⟨v12,Wh,h12,mO,iW,hK12⟩:=hrel
     cases gk with
     | zero=>simp[mX]at Wh
     | succ gk=>
      rw[mX]at Wh;have HX12:=kH Wh;have oV:=kH hK12;obtain⟨k',hk'⟩:∃x,bM E.l v12.st=x:=⟨_,rfl⟩
      have HKK:=kH hk';obtain⟨b3,hb3⟩:∃x,bE E.bs E.l v12.st [114,101,99,111,114,100]=x:=⟨_,rfl⟩
      have HB3:=kH hb3;obtain⟨b4,hb4⟩:∃x,bE E.bs E.l v12.st [112,114,111,99]=x:=⟨_,rfl⟩
      have sV:=kH hb4;have hkd:=fun w' (h:PW w' E v12)=>pI E hE v12 w' h
      have his:=fun x w' (h:PW w' E v12)=>yI E hE v12 x w' h
      rw[hk']at hkd;have qG:=kH hkd;have HIS:=kH his;have UM:=kH h12;obtain⟨bg,hbg⟩:∃x,(decide (k'≠5)&& !b3&& !b4)=x:=⟨_,rfl⟩
      have aar:=HX12.out;rw[hk',hb3,hb4,hbg]at aar;have HX13:=kH aar;have ZI:=kH hbg;clear Wh hK12 hk' hb3 hb4 hkd his hbg aar HX12;go_upto_region 8 with fail
      go_cut [36] (fun s36 wx=>s36= .bool bg/\Below wr.heap.size wr wx)
      case first=>
       by_cases hk5:k'=5
       ·have e:bg=false:=by rw[<- ZI.out];simp[hk5]
        subst e;have hki:((k':Int) !=5)=false:=by simp;omega
        clear hk5;go_wp2_with fail
        refine(qG.out _ UM.out).mono ?_;rintro e uL ⟨rfl,ic⟩;go_wp2_with fail
        go_meet
        exact⟨rfl,ic⟩
       ·have e:bg=(!b3&& !b4):=by rw[<- ZI.out];simp[hk5]
        subst e;have hki:((k':Int) !=5)=true:=by simp;omega
        clear hk5;go_wp2_with fail
        refine(qG.out _ UM.out).mono ?_;rintro e uL ⟨rfl,ic⟩;have pR:=UM.out.below ic;go_wp2_with fail
        refine(HIS.out [114,101,99,111,114,100] _ pR).mono ?_;rintro e xH ⟨rfl,dO⟩;rw[HB3.out];have yR:=pR.below dO;have WI:=ic.trans (dO.mono ic.size);clear dO ic;cases b3
        ·go_wp2_with fail
         refine(HIS.out [112,114,111,99] _ yR).mono ?_;rintro e Hl ⟨rfl,pQ⟩;rw[sV.out];go_wp2_with fail
         go_meet
         exact⟨by simp,WI.trans (pQ.mono WI.size)⟩
        ·go_wp2_with fail
         go_meet
         exact⟨by simp,WI⟩
      case rest=>
       obtain⟨rfl,hbw⟩:=hcut;have h16:=UM.out.below hbw;have Ei:=iW.below hbw iW.lt;have Zo:=mO.trans (PM.of_below hbw);have abv:=kH (oV.out.keeps (bW.of_below hbw));cases bg
       ·have hq1:v12.st=q1:=by simpa using HX13.out
        have iC:=kH hq1;clear hbw hq1;go_wp2_with fail
        refine(leaf_to E hE v12 _ h16 iC.out v7.st.k 1 []).mono ?_;rintro e XB ⟨k17,t17,a17,z17,SA,n17,c17,rfl,hT17,v17,FM,EL,FQ⟩;have Kj:=kH FM;have F4:=FQ.blk h16 Ei;have Ml:=Zo.trans FQ;clear FM;obtain⟨vals18,hO18,hTs18,hn18⟩:=abv.out.keeps (FQ.dR h16);have hTn18:aB XB (fun g=>w.heap.size<=g/\some g≠(Value.slice A7 n7 c7).ownBlock) _ _:=aB.weak (fun g _ hg=>⟨abF Zo.since.size hg,fun e1=>by obtain⟨_,hO4,_,_⟩:=abv.out;have:=(hO4.lt g e1.symm).2;omega⟩) _ _ hT17;have hrz18:=Ml.since.size;have abt:=kH hO18;have HTs18:=kH hTs18;have HTn18:=kH hTn18;have Hn18:=kH hn18;clear hO18 hTs18 hTn18 hn18 hT17;go_wp2_with (at_builtin;go_must (refine dm _ rfl (.tmp 39) (.tmp 43) _ rfl (w.heap.size) 24 i0 _ 5 64 Tryz.underlying22 hi0 hz0 hz1 hz2 rfl (.slice A7 n7 c7) n7 (List.flatten vals18) rfl (abt.out.alloc _) ⟨XB.heap.size,0,none⟩ 1 1 [.int .i64 k17,.string t17,.int .i64 a17,.int .i64 z17,.slice SA n17 c17] rfl rfl (jd _ _ _ _ _ _ _ (by go_simp) (by go_simp) (by go_simp) (by go_simp) (by go_simp)) (by simp[Value.oneCell']) (by simp only[maxLen];omega) (by omega) (by simp;omega) ?_);intro vn w18 hown hgrow hat;obtain⟨A18,c18,nC,-,-⟩:=hown.shape;subst nC;have HOWN18:=kH hown;have UG:=kH hgrow;have HAT18:=kH hat;clear hown hgrow hat)
        have Sl:=kH (bV.pushed HTs18.out Hn18.out HTn18.out HOWN18.out UG.out HAT18.out);obtain⟨h18,P18,TW⟩:=kM EL Ml abt.out (abE _) UG.out;have F3:=TW _ _ F4 (fun e1=>by have:=(abt.out.lt _ e1).1;have:=I4.out;omega);clear TW;go_roundg go
        case measure=>omega
        case rel=>exact⟨A18,n7+1,c18,v17,pq++[aH E.l q1 v7.st.k 1 [] []],rfl,Sl.out,by rw[Kj.out];exact bF.out,by rw[Kj.out];have:=Gw.out;have:=xE.out;show n7+1<=q1.k;omega,h18,P18,F3⟩
       ·have hk5:bM E.l v12.st≠5:=by
         rw[HKK.out];have:=ZI.out;simp only[abG,decide_eq_true_eq]at this;exact this.1.1
        have hnx:mX E.bs E.l gk (ay E.l v12.st)=some q1:=by simpa using HX13.out
        have EW:=kH hnx;have HK5':=kH hk5;clear hbw hnx hk5;go_wp2_with fail
        have nA:Hid (v12.st=v12.st):=kH rfl;refine(vR E hE v12 _ h16 nA.out HK5'.out).mono ?_;rintro e XB ⟨rfl,v17,FM,EL,FQ⟩;have Kj:=kH FM;have F4:=FQ.blk h16 Ei;have Ml:=Zo.trans FQ;have Nb:=kH (abv.out.keeps (FQ.dR h16));clear FM FQ;go_wp2_with fail
        go_roundg gk
        case measure=>omega
        case rel=>exact⟨v17,by rw[Kj.out];exact EW.out,EL,Ml,F4,Nb.out⟩
theorem end_any(E:PE)(hE:E.Ok)(v:PV)(w:World)(hpw:PW w E v)(h5:bM E.l v.st=5):Calls Tryz.prog 75 #[.pointer (some ⟨E.gp,0,none⟩)] w fun e w'=> ∃DA dn dc,e= .returned (.slice DA dn dc)/\dn=(ib (iF E.bs) v.st.ds).length/\aL w' w.heap.size 78 5 (.slice DA dn dc) dn ((ib (iF E.bs) v.st.ds).flatMap bC)/\Below w.heap.size w w':=by
 have H5:=kH h5;clear h5;go_enter Tryz.func75,Tryz.ntmps75
 go_wp2_with fail
 refine(pI E hE v _ hpw).mono ?_;rintro e w8 ⟨rfl,dW⟩;rw[H5.out];have h8:=hpw.below dW;go_wp2_with fail
 have hc4:w8.cell? ⟨E.gp,4,none⟩=some v.lv:=h8.blk.cell 4;have hc0:w8.cell? ⟨E.gp,0,none⟩=some (.string E.s):=h8.blk.cell 0;obtain⟨A4,c4,hv4,hn4,-⟩:=h8.own.shape;rw[hv4]at hc4;have hlen:=h8.good.len (m:=4096) (by have:=hE.get v.st.k;have:=hE.size;omega);have Ea:=h8.blk.lt;obtain⟨nd,hnd⟩:∃x,v.st.ds.length=x:=⟨_,rfl⟩
 rw[hnd]at hc4 hn4 hlen;have Kk:=kH (h8.own.rowAt (cells:=bC) (l:=v.st.ds) hv4 rfl (by intro c _;rfl) rfl);have lC:=kH hnd
 have hll:(iF E.bs).length<=4097:=by
  have:=Ik E.bs;have h1:E.bs.length=E.s.size:=by unfold PE.bs;exact bP _
  have:=hE.size;omega
 have Mw:=kH hll;clear hnd hll hv4;refine o9 (fun w'=>w'.cell? ⟨E.gp,0,none⟩=some (.string E.s)/\w'.cell? ⟨E.gp,4,none⟩=some (.slice A4 nd c4)) [] [(0,true),(1,true),(2,true),(3,true),(5,true),(6,true),(7,true),(8,true),(4,false),(9,false),(10,false)] (by kernel_rfl) (by kernel_rfl) rfl (by kernel_rfl) ?_;have hS0:w8.drew.cell? ⟨E.gp,0,none⟩=some (.string E.s)/\w8.drew.cell? ⟨E.gp,4,none⟩=some (.slice A4 nd c4):=⟨hc0,hc4⟩
 refine iP (by simp only[abN,abL];rfl) (by rfl) hS0 (by intro w' hSw;obtain⟨hs1,hs2⟩:=hSw;go_simp;rfl) ?_;iterate 7(simp only[Act.put,sA,sZ,sC];refine iP (by simp only[abN,abM,abL];rfl) (by rfl) hS0 (by intro w' hSw;obtain⟨hs1,hs2⟩:=hSw;go_simp;rfl) ?_)
 simp only[Act.put,sA,sZ,sC];refine sj (by simp only[abN,abM,abL];rfl) (by rfl) ?_;go_simp
 refine(Il E.s _ hE.size).mono ?_;rintro e w9 ⟨A9,n9,c9,rfl,YB,Ug,fA⟩;have vG:Below w8.heap.size w8 w9:=((Below.refl w8.heap.size w8).drew).trans fA;refine⟨⟨(vG.cell (p:=⟨E.gp,0,none⟩) Ea).trans hc0,(vG.cell (p:=⟨E.gp,4,none⟩) Ea).trans hc4⟩,?_⟩;have hra:=Ug.rowAt (cells:=bC) (l:=iF E.bs) rfl rfl (by intro c _;rfl) YB.symm;obtain⟨_,_,gV,hn9c,-⟩:=Ug.shape;cases gV
 have hn9':(iF E.bs).length=n9:=YB.symm;have hrb:=(Kk.out.below vG (abE _)).mono vG.size;have QY:=K8 (iF E.bs) v.st.ds A9 A4 c9 c4 w9 hra hrb (by have:=Mw.out;omega) (by have:=lC.out;omega) (by omega) (by have:=lC.out;omega);rw[lC.out,hn9']at QY;clear YB hn9';refine sj (by simp only[abN,abM,abL];rfl) (by rfl) ?_;go_simp
 refine QY.mono ?_;rintro e bA ⟨oL,n10,c10,rfl,pJ,oC,jD⟩;have lS:Below w8.heap.size w8 bA:=vG.trans (jD.mono vG.size);refine⟨⟨(lS.cell (p:=⟨E.gp,0,none⟩) Ea).trans hc0,(lS.cell (p:=⟨E.gp,4,none⟩) Ea).trans hc4⟩,?_⟩;refine pg (w':=bA) (by simp only[abN,abM,abL];rfl) (by rfl) (by go_simp;rfl) (fun _=>⟨(lS.cell (p:=⟨E.gp,0,none⟩) Ea).trans hc0,(lS.cell (p:=⟨E.gp,4,none⟩) Ea).trans hc4⟩) ?_;simp only[Act.put,sA,sZ,sC];refine vC ?_;have iw:Hid (∃DA dn dc,Ending.returned (.slice oL n10 c10)= .returned (.slice DA dn dc)/\dn=(ib (iF E.bs) v.st.ds).length/\aL bA w.heap.size 78 5 (.slice DA dn dc) dn ((ib (iF E.bs) v.st.ds).flatMap bC)/\Below w.heap.size w bA):=kH ⟨oL,n10,c10,rfl,pJ,oC.mono (by have:=vG.size;have:=dW.size;omega),dW.trans (lS.mono dW.size)⟩;rw[<- pJ];clear pJ oC jD lS;go_wp2_with fail
 refine bodyPost_ret (v:=.slice oL n10 c10) (by simp[results,Tryz.results75,go_sem]) rfl ?_;exact iw.out
theorem OH(s:ByteArray)(w0:World)(hs:s.size<=4096)(f:Nat)(t:ae)(q:PS)(hf:aN s.data.toList (pz s.data.toList) f .stmt ⟨0,0,[]⟩=some ([t],q))(h5:bM (pz s.data.toList) q=5):
 Calls Tryz.prog 38 #[.string s] w0 (zU w0 t (ib (iF s.data.toList) q.ds)):=by
 have hgt:¬(4096:Int)<s.size:=by omega
 have HF:=kH hf;have H5:=kH h5;clear hf h5;go_enter Tryz.func38,Tryz.ntmps38
 go_wp2_with fail
 generalize hW1:w0.alloc (.cells #[.int .i64 0,.string ⟨#[]⟩,.int .i64 0,.int .i64 0,.slice none 0 0] 24)=W1
 have hb1:Below w0.heap.size w0 W1:=by rw[<- hW1];exact ag _ _
 have hRR:ai W1 w0.heap.size 24 #[.int .i64 0,.string ⟨#[]⟩,.int .i64 0,.int .i64 0,.slice none 0 0]:=by rw[<- hW1];exact ai.new w0 _ _
 refine(Ns s W1 hs).mono ?_;rintro e w ⟨E,v,rfl,hE,hbs,hl,hlo,hst,hpw,hbw⟩;have hR0:=hRR.below hbw hRR.lt;have hgw:w0.heap.size+1<=w.heap.size:=hR0.lt;have qf:=kH (hb1.trans (hbw.mono hb1.size));have Yr:W1.heap.size=w0.heap.size+1:=by rw[<- hW1];simp
 have HZW:=kH Yr;have IY:=kH hlo;have UL:=kH hbs;have HL:=kH hl;have I4:=kH hgw;have hcall:=(answ E hE f).stmt v w t q hpw (by rw[hbs,hl,hst];exact HF.out);have HC:=kH hcall;clear hW1 hb1 hRR hbw hbs hl hlo hst hgw Yr hcall;go_wp2_with fail
 refine HC.out.mono ?_;rintro e w2 ⟨k2,t2,a2,z2,A2,n2,c2,rfl,p9,v2,hv2,h2,hm2⟩;try dsimp only at hv2 p9
 have hR2:=hm2.blk hpw hR0;have gF:=kH hv2;go_wp2_with fail
 generalize hW3:w2.alloc (.cells #[.int .i64 k2,.string t2,.int .i64 a2,.int .i64 z2,.slice A2 n2 c2] 24)=w3
 have hb3:Below w2.heap.size w2 w3:=by rw[<- hW3];exact ag _ _
 have Rk:ai w3 w2.heap.size 24 #[.int .i64 k2,.string t2,.int .i64 a2,.int .i64 z2,.slice A2 n2 c2]:=by rw[<- hW3];exact ai.new w2 _ _
 have hl3:=Rk.lt;have h3:=h2.below hb3;have bT:=hR2.below hb3 hR2.lt;have jX:=aB.keeps (bW.of_below hb3) _ _ p9;obtain⟨⟨q0,q1,q2,q3,q4⟩,-⟩:=Rk.five;have hsz2:=hm2.since.size;have hlow:=hE.low;have Ee:=(qf.out.trans (hm2.below hpw (B:=w0.heap.size) (by have:=IY.out;have:=HZW.out;omega) hlow)).trans (hb3.mono (by have:=I4.out;omega));have Xo:=kH Ee;clear hW3 Ee;have hend:=end_any E hE v2 w3.drew (h3.below (Below.refl _ _).drew) (by rw[hv2,HL.out];exact H5.out);rw[hv2,UL.out]at hend;have aO:=kH hend;clear hend;refine o9 (fun w'=>w'.cell? ⟨w2.heap.size,0,none⟩=some (.int .i64 k2)/\w'.cell? ⟨w2.heap.size,1,none⟩=some (.string t2)/\w'.cell? ⟨w2.heap.size,2,none⟩=some (.int .i64 a2)/\w'.cell? ⟨w2.heap.size,3,none⟩=some (.int .i64 z2)/\w'.cell? ⟨w2.heap.size,4,none⟩=some (.slice A2 n2 c2)) [] [(0,true),(1,true),(2,false),(3,false),(4,false),(5,false)] (by kernel_rfl) (by kernel_rfl) rfl (by kernel_rfl) ?_;have hS0:w3.drew.cell? ⟨w2.heap.size,0,none⟩=some (.int .i64 k2)/\w3.drew.cell? ⟨w2.heap.size,1,none⟩=some (.string t2)/\w3.drew.cell? ⟨w2.heap.size,2,none⟩=some (.int .i64 a2)/\w3.drew.cell? ⟨w2.heap.size,3,none⟩=some (.int .i64 z2)/\w3.drew.cell? ⟨w2.heap.size,4,none⟩=some (.slice A2 n2 c2):=⟨q0,q1,q2,q3,q4⟩
 refine iP (by simp only[abN,abL];rfl) (by rfl) hS0 (by intro w' hSw;obtain⟨hs1,hs2,hs3,hs4,hs5⟩:=hSw;go_simp;rfl) ?_;simp only[Act.put,sA,sZ,sC];refine iP (by simp only[abN,abM,abL];rfl) (by rfl) hS0 (by intro w' hSw;obtain⟨hs1,hs2,hs3,hs4,hs5⟩:=hSw;go_simp;rfl) ?_;simp only[Act.put,sA,sZ,sC];refine sj (by simp only[abN,abM,abL];rfl) (by rfl) ?_;go_simp
 refine aO.out.mono ?_;rintro e bA ⟨oL,n10,c10,rfl,pJ,oC,jD⟩;have lS:Below w3.heap.size w3 bA:=((Below.refl w3.heap.size w3).drew).trans jD;refine⟨⟨(lS.cell (p:=⟨w2.heap.size,0,none⟩) hl3).trans q0,(lS.cell (p:=⟨w2.heap.size,1,none⟩) hl3).trans q1,(lS.cell (p:=⟨w2.heap.size,2,none⟩) hl3).trans q2,(lS.cell (p:=⟨w2.heap.size,3,none⟩) hl3).trans q3,(lS.cell (p:=⟨w2.heap.size,4,none⟩) hl3).trans q4⟩,?_⟩;have dK:=bT.below lS bT.lt;obtain⟨⟨r0,r1,r2,r3,r4⟩,g0,g1,g2,g3,g4⟩:=dK.five;have hlr:=dK.lt;have hlr3:=bT.lt;have hlr2:=hR2.lt;have hl10:w2.heap.size<bA.heap.size:=Nat.lt_of_lt_of_le hl3 lS.size
 have FO:aF (fun g=>g=w0.heap.size) bA (ek bA w0.heap.size (.int .i64 k2) (.string t2) (.int .i64 a2) (.int .i64 z2) (.slice A2 n2 c2)):=by
  unfold ek;exact(((((aF.refl (fun g=>g=w0.heap.size) bA).setCell (.inl rfl) _).setCell (.inl rfl) _).setCell (.inl rfl) _).setCell (.inl rfl) _).setCell (.inl rfl) _
 have hSW:(ek bA w0.heap.size (.int .i64 k2) (.string t2) (.int .i64 a2) (.int .i64 z2) (.slice A2 n2 c2)).cell? ⟨w2.heap.size,0,none⟩=some (.int .i64 k2)/\(ek bA w0.heap.size (.int .i64 k2) (.string t2) (.int .i64 a2) (.int .i64 z2) (.slice A2 n2 c2)).cell? ⟨w2.heap.size,1,none⟩=some (.string t2)/\(ek bA w0.heap.size (.int .i64 k2) (.string t2) (.int .i64 a2) (.int .i64 z2) (.slice A2 n2 c2)).cell? ⟨w2.heap.size,2,none⟩=some (.int .i64 a2)/\(ek bA w0.heap.size (.int .i64 k2) (.string t2) (.int .i64 a2) (.int .i64 z2) (.slice A2 n2 c2)).cell? ⟨w2.heap.size,3,none⟩=some (.int .i64 z2)/\(ek bA w0.heap.size (.int .i64 k2) (.string t2) (.int .i64 a2) (.int .i64 z2) (.slice A2 n2 c2)).cell? ⟨w2.heap.size,4,none⟩=some (.slice A2 n2 c2):=by
  have hX10:=(Rk.below lS hl3).since FO (by omega);exact hX10.five.1
 have LH:=aB.keeps (bW.of_below lS) _ _ jX;replace LH:=aB.keeps (w':=(ek bA w0.heap.size (.int .i64 k2) (.string t2) (.int .i64 a2) (.int .i64 z2) (.slice A2 n2 c2))) (fun g cs hg hc=>FO.block g (abH.1 hc).1 (by have:=I4.out;omega)) _ _ LH
 replace LH:=aB.weak (Q:=fun g=>w0.heap.size<=g) (fun g _ hg=>by have:=I4.out;omega) _ _ LH
 have Uf:=(oC.since FO (fun g hg e1=>by have h1:=(oC.lt g hg).1;have h3:w3.drew.heap.size=w3.heap.size:=rfl;omega)).mono (base':=w0.heap.size) (by have h3:w3.drew.heap.size=w3.heap.size:=rfl;omega);have hBW:=(Xo.out.trans (lS.mono (by omega))).trans (FO.toBelow (B:=w0.heap.size) (by omega) (fun g hg=>by omega))
 have YM:ai (ek bA w0.heap.size (.int .i64 k2) (.string t2) (.int .i64 a2) (.int .i64 z2) (.slice A2 n2 c2)) w0.heap.size 24 #[.int .i64 k2,.string t2,.int .i64 a2,.int .i64 z2,.slice A2 n2 c2]:=by
  have:=((((dK.fM 0 (.int .i64 k2)).fM 1 (.string t2)).fM 2 (.int .i64 a2)).fM 3 (.int .i64 z2)).fM 4 (.slice A2 n2 c2);unfold ek;simpa using this
 have iw:Hid (zU w0 t (ib (iF s.data.toList) q.ds) (.returned (.tuple #[.agg #[.int .i64 k2,.string t2,.int .i64 a2,.int .i64 z2,.slice A2 n2 c2],.slice oL n10 c10,.int .i64 0])) (ek bA w0.heap.size (.int .i64 k2) (.string t2) (.int .i64 a2) (.int .i64 z2) (.slice A2 n2 c2))):=kH ⟨_,_,_,_,_,_,_,_,_,_,rfl,LH,pJ,Uf,hBW⟩;refine Ng (w':=(ek bA w0.heap.size (.int .i64 k2) (.string t2) (.int .i64 a2) (.int .i64 z2) (.slice A2 n2 c2))) (by simp only[abN,abM,abL];rfl) (by rfl) (by unfold ek;go_simp) (fun _=>hSW) ?_;simp only[Act.put];iterate 2(refine pg (w':=(ek bA w0.heap.size (.int .i64 k2) (.string t2) (.int .i64 a2) (.int .i64 z2) (.slice A2 n2 c2))) (by simp only[abN,abM,abL];rfl) (by rfl) (by go_simp;rfl) (fun _=>hSW) ?_;simp only[Act.put,sA,sZ,sC])
 refine vC ?_;rw[<- pJ];clear pJ oC jD lS FO hSW LH Uf hBW r0 r1 r2 r3 r4 g0 g1 g2 g3 g4 hS0;generalize ek bA w0.heap.size (.int .i64 k2) (.string t2) (.int .i64 a2) (.int .i64 z2) (.slice A2 n2 c2)=WZ at iw YM⊢
 obtain⟨⟨r0,r1,r2,r3,r4⟩,-⟩:=YM.five;go_wp2_with fail
 refine bodyPost_ret (v:=.tuple #[.agg #[.int .i64 k2,.string t2,.int .i64 a2,.int .i64 z2,.slice A2 n2 c2],.slice oL n10 c10,.int .i64 0]) (by simp[results,Tryz.results38,go_sem,r0,r1,r2,r3,r4]) rfl ?_;exact iw.out
end Go.Proofs.YtoepemlnlpamlaaGreat
