/- The law NamesBack holds for every text and every number: it returns true, and its arguments read as before. No condition. Part 16: Parse Stat. -/
import Derived.Test.YtoepemlnlpamlaaGreatBakk15
set_option maxRecDepth 100000
set_option maxHeartbeats 4000000
namespace Go.Proofs.YtoepemlnlpamlaaGreat
open Go.RowKit
section
variable {s:aP}{l:List jl}
theorem Ex(he:mX l){f:Nat}{p:PS}{x:aa}{q:PS}(h:lK s l f p=some (x,q))(hp:p.k<l.length)(h5:bG l p≠5):Le l p q/\p.k<q.k:=by
 obtain⟨f0,x0,q0,h0,h1,h2⟩:=JL (s:=s) he hp h5;have e1:=jO (F:=fun f=>lK s l f p) (fun f y h=>vV f _ y h) (Nat.le_max_left f f0) h;have e2:=jO (F:=fun f=>lK s l f p) (fun f y h=>vV f _ y h) (Nat.le_max_right f f0) h0;rw[e1]at e2;cases e2
 exact⟨h1,h2⟩
theorem JY(he:mX l)(hend:oQ s l){f:Nat}{p:PS}{x:aa}{q:PS}(h:qm s l f p=some (x,q))(hp:p.k<l.length)(h5:bG l p≠5):Le l p q/\p.k<q.k:=by
 obtain⟨f0,x0,q0,h0,h1,h2⟩:=O9 (s:=s) he hend hp h5;have e1:=jO (F:=fun f=>qm s l f p) (fun f y h=>y7 f _ y h) (Nat.le_max_left f f0) h;have e2:=jO (F:=fun f=>qm s l f p) (fun f y h=>y7 f _ y h) (Nat.le_max_right f f0) h0;rw[e1]at e2;cases e2
 exact⟨h1,h2⟩
theorem ED(he:mX l){f:Nat}{p:PS}{q:PS}(h:mO s l f p=some q)(hp:p.k<l.length):Le l p q/\((decide (bG l p≠5)&& !bB s l p [114,101,99,111,114,100]&& !bB s l p [112,114,111,99])=true->p.k<q.k):=by
 obtain⟨f0,q0,h0,h1,h2⟩:=MQ (s:=s) he (l.length) p hp (by omega);have e1:=jO (F:=fun f=>mO s l f p) (fun f y h=>xS f _ y h) (Nat.le_max_left f f0) h;have e2:=jO (F:=fun f=>mO s l f p) (fun f y h=>xS f _ y h) (Nat.le_max_right f f0) h0;rw[e1]at e2;cases e2
 exact⟨h1,h2⟩
end
def zw(w0:World)(t:aa)(ds:List Dg)(e:Ending)(w':World):Prop:=
 ∃k x a z A n c DA dn dc,e= .returned (.tuple #[.agg #[.int .i64 k,.string x,.int .i64 a,.int .i64 z,.slice A n c],.slice DA dn dc,.int .i64 0])/\aB w' (fun g=>w0.heap.size<=g) t [.int .i64 k,.string x,.int .i64 a,.int .i64 z,.slice A n c]/\dn=ds.length/\aL w' w0.heap.size 78 5 (.slice DA dn dc) dn (ds.flatMap bR)/\Below w0.heap.size w0 w'
theorem leaf_to(E:PE)(hE:E.Ok)(v:PV)(w:World)(hpw:PW w E v){p:PS}(hst:v.st=p)(first:Nat)(kind:Int)(t:aP):
 Calls Tryz.prog 71 #[.pointer (some ⟨E.gp,0,none⟩),.int .i64 (first:Int),.int .i64 kind,.string (aU t),.slice none 0 0] w (bq E w v (aH E.l p first kind t [],p)):=by
 subst hst;refine(ig E hE v w hpw first kind t w.heap.size).mono ?_;rintro e w' ⟨rfl,hb,hT⟩;exact⟨_,_,_,_,_,_,_,rfl,hT,v,rfl,hpw.below hb,PM.of_below hb⟩
theorem GG(s:aP):(ic s).length<=s.length+1:=aaE (List.length_filterMap_le _ _) (xQ s)
theorem ML(s:ByteArray)(w0:World)(hs:s.size<=4096):Calls Tryz.prog 37 #[.string s] w0 fun e w'=> ∃f t ds,lL f s.data.toList=some (t,ds)/\zw w0 t ds e w':=by
 obtain⟨i0,hi0,hz0,hz1,hz2⟩:=info_parts qp;have hgt:¬(4096:Int)<s.size:=by omega
 go_enter Tryz.func37,Tryz.ntmps37
 go_wp2_with fail
 generalize hW1:w0.alloc (.cells #[.int .i64 0,.string ⟨#[]⟩,.int .i64 0,.int .i64 0,.slice none 0 0] 24)=W1
 have hb1:Below w0.heap.size w0 W1:=by rw[<- hW1];exact af _ _
 have hRR:ai W1 w0.heap.size 24 #[.int .i64 0,.string ⟨#[]⟩,.int .i64 0,.int .i64 0,.slice none 0 0]:=by rw[<- hW1];exact ai.new w0 _ _
 refine(MC s W1 hs).mono ?_;rintro e w ⟨E,v,rfl,hE,hbs,hl,hlo,hst,hpw,hbw⟩;have hR0:=hRR.below hbw hRR.lt;have hgw:w0.heap.size+1<=w.heap.size:=hR0.lt;have tY:=kH (hb1.trans (hbw.mono hb1.size));obtain⟨f,kids,q,hP⟩:=Y2 hE.ends hE.empty (E.l.length) v.st [] (by rw[hE.len];exact hpw.at_) (by omega);have HP:=kH hP;have TK:=kH hbs;have HL:=kH hl;have Hd:=kH hlo;have HST:=kH hst;have He:=kH hgw;have Xm:W1.heap.size=w0.heap.size+1:=by rw[<- hW1];simp
 have HZW:=kH Xm;clear hW1 hb1 hRR hbw hP hbs hl hlo hst hgw Xm;have hgl:=hpw.blk.lt;go_wp2_with fail
 generalize zR:w.alloc (.cells #[] 24)=w2
 have hb2:Below w.heap.size w w2:=by rw[<- zR];exact af _ _
 have hK2:bL w2 w.heap.size (.slice (some ⟨w.heap.size,0,none⟩) 0 0) 0 []:=by
  refine⟨[],?_,rfl,rfl⟩;have hn:=ai.new w 24 #[];rw[zR]at hn;exact aL.block (n:=0) (cur:=#[]) (aaD _) hn (by simp[maxLen]) rfl
 have h2:=hpw.below hb2;have P2:=PM.of_below (E:=E) (v:=v) hb2;have hR2:=hR0.below hb2 (by have:=He.out;omega);have Ap:=kH hK2;clear zR hb2 hK2 hR0;go_loopg [6] f (fun gk s6 wr=> ∃A n c vx ts,s6= .slice A n c/\bL wr w.heap.size (.slice A n c) n ts/\jw E.bs E.l gk vx.st ts=some (kids,q)/\n<=vx.st.k/\PW wr E vx/\PM E w v wr vx/\ai wr w0.heap.size 24 #[.int .i64 0,.string ⟨#[]⟩,.int .i64 0,.int .i64 0,.slice none 0 0])
 case atStart=>exact⟨_,0,_,v,[],rfl,Ap.out,HP.out,Nat.zero_le _,h2,P2,hR2⟩
 case round=>
  obtain⟨A7,n7,c7,v7,oZ,rfl,AU,hx7,wZ,h7,P7,ed⟩:=hrel
  cases gk with
  | zero=>simp[jw]at hx7
  | succ gk=>
   rw[jw]at hx7;have rf:=kH hx7;have FH:=kH AU;have I7:=h7.at_;have ze:=hE.most;have PU:n7<=5001:=by omega
   obtain⟨k,hk⟩:∃x,bG E.l v7.st=x:=⟨_,rfl⟩
   have HK:=kH hk;obtain⟨b1,hb1⟩:∃x,bB E.bs E.l v7.st [114,101,99,111,114,100]=x:=⟨_,rfl⟩
   have HB1:=kH hb1;obtain⟨b2,hb2⟩:∃x,bB E.bs E.l v7.st [112,114,111,99]=x:=⟨_,rfl⟩
   have HB2:=kH hb2;have Ao:=kH wZ;clear hx7 AU hk hb1 hb2 wZ;go_wp2_with fail
   have kY:Hid (v7.st=v7.st):=kH rfl;refine(vJ E hE v7 _ h7 kY.out HK.out).mono ?_;rintro e w8 ⟨rfl,v8,dZ,h8,dP⟩;have fV:=kH dZ;have dW:=dP.blk h7 ed;have P8:=P7.trans dP;have mH:=kH (FH.out.keeps (dP.dL h7));clear dZ dP;by_cases hk5:k=5
   ·subst hk5
    have hkk:oZ=kids/\v7.st=q:=by
     have:=rf.out;rw[if_pos HK.out]at this;simpa using this
    obtain⟨rfl,yo⟩:=hkk;have Fz:=kH yo;clear yo;go_wp2_with fail
    have hc4:w8.cell? ⟨E.gp,4,none⟩=some v8.lv:=h8.blk.cell 4;obtain⟨A4,c4,hv4,Kj,-⟩:=h8.own.shape;rw[hv4]at hc4;have hlen:=h8.good.len (m:=4096) (by have:=hE.get v8.st.k;have:=hE.size;omega);have CZ:=h8.blk.lt;obtain⟨nd,hnd⟩:∃x,v8.st.ds.length=x:=⟨_,rfl⟩
    rw[hnd]at hc4 Kj hlen;have hrow:=h8.own.rowAt (cells:=bR) (l:=v8.st.ds) hv4 rfl (by intro c _;rfl) rfl;have Jp:=kH hrow;have rF:=kH hnd;have hll:=GG s.data.toList;rw[bS]at hll;have Lh:=kH hll;clear hrow hnd hll hv4;refine oV (fun w'=>w'.cell? ⟨E.gp,4,none⟩=some (.slice A4 nd c4)) [] [(0,true),(1,true),(2,true),(3,true),(4,true),(6,true),(7,true),(8,true),(9,true),(5,false),(10,false),(11,false),(12,false),(13,false)] (by kernel_rfl) (by kernel_rfl) rfl (by kernel_rfl) ?_;have hS0:w8.drew.cell? ⟨E.gp,4,none⟩=some (.slice A4 nd c4):=hc4;refine iC (by simp only[aaM,aaK];rfl) (by rfl) hS0 (by intro w' hSw;go_simp;rfl) ?_;iterate 8(simp only[Act.put,sA,sZ,sC];refine iC (by simp only[aaM,aaL,aaK];rfl) (by rfl) hS0 (by intro w' hSw;go_simp;rfl) ?_)
    simp only[Act.put,sA,sZ,sC];refine rJ (by simp only[aaM,aaL,aaK];rfl) (by rfl) ?_;go_simp
    refine(GH s _ hs).mono ?_;rintro e w9 ⟨A9,n9,c9,rfl,ER,Ky,dx⟩;have xc:w9.cell? ⟨E.gp,4,none⟩=some (.slice A4 nd c4):=(dx.cell (p:=⟨E.gp,4,none⟩) CZ).trans hc4;refine⟨xc,?_⟩;have ve:Below w8.heap.size w8 w9:=((Below.refl w8.heap.size w8).drew).trans dx;have hra:=Ky.rowAt (cells:=bR) (l:=ic s.data.toList) rfl rfl (by intro c _;rfl) ER.symm;obtain⟨_,_,iy,hn9c,-⟩:=Ky.shape;cases iy
    have hrb:=(Jp.out.below ve (aaD _)).mono ve.size;have PX:=J7 (ic s.data.toList) v8.st.ds A9 A4 c9 c4 w9 hra hrb (by have:=Lh.out;omega) (by have:=rF.out;omega) (by omega) (by have:=rF.out;omega);rw[rF.out]at PX;refine rJ (by simp only[aaM,aaL,aaK];rfl) (by rfl) ?_;go_simp
    refine PX.mono ?_;rintro e bf ⟨oG,n10,c10,rfl,pE,oh,ji⟩;have lS:Below w8.heap.size w8 bf:=ve.trans (ji.mono ve.size);have hS10:bf.cell? ⟨E.gp,4,none⟩=some (.slice A4 nd c4):=(lS.cell (p:=⟨E.gp,4,none⟩) CZ).trans hc4;refine⟨hS10,?_⟩;have dG:=dW.below lS dW.lt;obtain⟨⟨r0,r1,r2,r3,r4⟩,g0,g1,g2,g3,g4⟩:=dG.five
    have hne10:E.gp≠w0.heap.size:=by
     have h1:=hE.low;have h3:=Hd.out;have h4:=HZW.out;omega
    have hlr:=dG.lt;refine Mq (w':=bZ bf w0.heap.size (.int .i64 2) (.string ⟨#[]⟩) (.int .i64 0) (.int .i64 (s.size:Int)) (.slice A7 n7 c7)) (by simp only[aaM,aaL,aaK];rfl) (by rfl) (by unfold bZ;go_simp) (fun _=>by unfold bZ;go_simp) ?_;simp only[Act.put];iterate 2(refine oW (w':=bZ bf w0.heap.size (.int .i64 2) (.string ⟨#[]⟩) (.int .i64 0) (.int .i64 (s.size:Int)) (.slice A7 n7 c7)) (by simp only[aaM,aaL,aaK];rfl) (by rfl) (by go_simp;rfl) (fun _=>by unfold bZ;go_simp) ?_;simp only[Act.put,sA,sZ,sC])
    refine uX ?_
    have EO:az (fun g=>g=w0.heap.size) bf (bZ bf w0.heap.size (.int .i64 2) (.string ⟨#[]⟩) (.int .i64 0) (.int .i64 (s.size:Int)) (.slice A7 n7 c7)):=by
     unfold bZ;exact(((((az.refl (fun g=>g=w0.heap.size) bf).setCell (.inl rfl) _).setCell (.inl rfl) _).setCell (.inl rfl) _).setCell (.inl rfl) _).setCell (.inl rfl) _
    have hkW:=(mH.out.keeps (bO.of_below lS)).keeps (w':=bZ bf w0.heap.size (.int .i64 2) (.string ⟨#[]⟩) (.int .i64 0) (.int .i64 (s.size:Int)) (.slice A7 n7 c7)) (fun g cs hg hc=>EO.block g (aaG.1 hc).1 (by have:=He.out;omega));have Kv:=aB.weak (Q:=fun g=>w0.heap.size<=g) (fun g _ hg=>by have:=He.out;omega) _ _ (hkW.node 2 (aU []) 0 (s.size:Int));have hlt8:=dW.lt;have hn10':=pE;have Pv:w0.heap.size<=w9.heap.size:=by have:=ve.size;omega
    have Tf:=(oh.since EO (fun g hg e1=>by have:=(oh.lt g hg).1;have:=ve.size;omega)).mono Pv;have hbW:=EO.toBelow (B:=w0.heap.size) (Nat.le_of_lt hlr) (fun g hg=>by omega);have hlow:=hE.low;have hBW:=((tY.out.trans (P8.below hpw (B:=w0.heap.size) (by have:=Hd.out;have:=HZW.out;omega) hlow)).trans (lS.mono (by omega))).trans hbW;have hds:gN (ic s.data.toList) v8.st.ds=gN (ic s.data.toList) q.ds:=by rw[fV.out,Fz.out]
    rw[hds]at Tf pE
    have u7:lL f s.data.toList=some (.node 2 (aU []) 0 (s.size:Int) oZ,gN (ic s.data.toList) q.ds):=by
     unfold lL;have:=HP.out;rw[TK.out,HL.out,HST.out]at this;rw[this,bS]
    have iP:Hid (∃f t ds,lL f s.data.toList=some (t,ds)/\zw w0 t ds (.returned (.tuple #[.agg #[.int .i64 2,.string (aU []),.int .i64 0,.int .i64 (s.size:Int),.slice A7 n7 c7],.slice oG n10 c10,.int .i64 0])) (bZ bf w0.heap.size (.int .i64 2) (.string ⟨#[]⟩) (.int .i64 0) (.int .i64 (s.size:Int)) (.slice A7 n7 c7))):=kH ⟨f,_,_,u7,_,_,_,_,_,_,_,_,_,_,rfl,Kv,pE,Tf,hBW⟩
    have XK:ai (bZ bf w0.heap.size (.int .i64 2) (.string ⟨#[]⟩) (.int .i64 0) (.int .i64 (s.size:Int)) (.slice A7 n7 c7)) w0.heap.size 24 #[.int .i64 2,.string ⟨#[]⟩,.int .i64 0,.int .i64 (s.size:Int),.slice A7 n7 c7]:=by
     have:=((((dG.fU 0 (.int .i64 2)).fU 1 (.string ⟨#[]⟩)).fU 2 (.int .i64 0)).fU 3 (.int .i64 (s.size:Int))).fU 4 (.slice A7 n7 c7);unfold bZ;simpa using this
    clear EO hkW Kv Tf hbW hBW hds u7 lS ji dx ve oh Ky r0 r1 r2 r3 r4 g0 g1 g2 g3 g4 hS10 xc hS0 hc4;generalize bZ bf w0.heap.size (.int .i64 2) (.string ⟨#[]⟩) (.int .i64 0) (.int .i64 (s.size:Int)) (.slice A7 n7 c7)=WZ at iP XK⊢
    obtain⟨⟨r0,r1,r2,r3,r4⟩,-⟩:=XK.five;rw[<- hn10'];go_wp2_with fail
    refine bodyPost_ret (v:=.tuple #[.agg #[.int .i64 2,.string ⟨#[]⟩,.int .i64 0,.int .i64 (s.size:Int),.slice A7 n7 c7],.slice oG n10 c10,.int .i64 0]) (by simp[results,Tryz.results37,go_sem,r0,r1,r2,r3,r4]) rfl ?_;exact iP.out
   ·have hki:((k:Int) !=5)=true:=by simp;omega
    have yX:Hid (bG E.l v7.st≠5):=kH (by rw[HK.out];exact hk5);have hX2:=rf.out;rw[if_neg yX.out]at hX2;have Yh:=kH hX2;clear hX2 rf hk5;go_wp2_with fail
    refine(AB E hE v8 _ h8 fV.out [114,101,99,111,114,100] HB1.out).mono ?_;rintro e w9 ⟨rfl,v9,iy,h9,fD⟩;have j4:=kH iy;have eQ:=fD.blk h8 dW;have P9:=P8.trans fD;have FE:=kH (mH.out.keeps (fD.dL h8));clear iy fD;cases b1
    case true=>
     obtain⟨x10,q10,hx,hnx⟩:∃x q1,lK E.bs E.l gk v7.st=some (x,q1)/\jw E.bs E.l gk q1 (oZ++[x])=some (kids,q):=by
      have:=Yh.out;rw[if_pos HB1.out]at this;split at this
      ·cases this
      ·rename_i x p h;exact⟨x,p,h,this⟩
     have hpr:=Ex hE.ends hx (by rw[hE.len];exact I7) yX.out;have bD:=kH hnx;have qE:=kH hpr;have hcall:=Ul E hE v9 w9 h9 gk (x10,q10) (by rw[j4.out];exact hx) (by rw[j4.out];exact yX.out);have HC:=kH hcall;clear hx hnx hpr hcall;go_wp2_with fail
     refine HC.out.mono ?_;rintro e bf ⟨k10,t10,Ae,zy,oG,n10,c10,rfl,mg,v10,fF,h10,eB⟩;have iO:=kH fF;have dG:=eB.blk h9 eQ;have jH:=P9.trans eB;clear fF;obtain⟨vals11,hO11,hTs11,hn11⟩:=FE.out.keeps (eB.dL h9);have hTn11:aB bf (fun g=>w.heap.size<=g/\some g≠(Value.slice A7 n7 c7).ownBlock) _ _:=aB.weak (fun g _ hg=>⟨aaE P9.since.size hg,fun e1=>by obtain⟨_,hO4,_,_⟩:=FE.out;have:=(hO4.lt g e1.symm).2;omega⟩) _ _ mg;have hrz11:=jH.since.size;have aaq:=kH hO11;have HTs11:=kH hTs11;have HTn11:=kH hTn11;have Hn11:=kH hn11;clear hO11 hTs11 hTn11 hn11 mg;go_wp2_with (at_builtin;go_must (refine dm _ rfl (.tmp 48) (.tmp 51) _ rfl (w.heap.size) 24 i0 _ 5 64 Tryz.underlying22 hi0 hz0 hz1 hz2 rfl (.slice A7 n7 c7) n7 (List.flatten vals11) rfl (aaq.out.alloc _) ⟨bf.heap.size,0,none⟩ 1 1 [.int .i64 k10,.string t10,.int .i64 Ae,.int .i64 zy,.slice oG n10 c10] rfl rfl (jB _ _ _ _ _ _ _ (by go_simp) (by go_simp) (by go_simp) (by go_simp) (by go_simp)) (by simp[Value.oneCell']) (by simp only[maxLen];omega) (by omega) (by simp;omega) ?_);intro vn jm hown hgrow hat;obtain⟨Bf,c11,kP,-,-⟩:=hown.shape;subst kP;have HOWN11:=kH hown;have TJ:=kH hgrow;have HAT11:=kH hat;clear hown hgrow hat)
     have FJ:=kH (bL.pushed HTs11.out Hn11.out HTn11.out HOWN11.out TJ.out HAT11.out);obtain⟨h11,qZ,SY⟩:=kS h10 jH aaq.out (aaD _) TJ.out;have iW:=SY _ _ dG (fun e1=>by have:=(aaq.out.lt _ e1).1;have:=He.out;omega);clear SY;go_roundg gk
     case measure=>omega
     case rel=>exact⟨Bf,n7+1,c11,v10,oZ++[x10],rfl,FJ.out,by rw[iO.out];exact bD.out,by rw[iO.out];have:=qE.out.2;have:=Ao.out;show n7+1<=q10.k;omega,h11,qZ,iW⟩
    go_wp2_with fail
    refine(AB E hE v9 _ h9 j4.out [112,114,111,99] HB2.out).mono ?_;rintro e bf ⟨rfl,v10,fF,h10,eB⟩;have iO:=kH fF;have dG:=eB.blk h9 eQ;have jH:=P9.trans eB;have ru:=kH (FE.out.keeps (eB.dL h9));clear fF eB;cases b2
    case true=>
     obtain⟨Du,Gx,hx,hnx⟩:∃x q1,qm E.bs E.l gk v7.st=some (x,q1)/\jw E.bs E.l gk q1 (oZ++[x])=some (kids,q):=by
      have:=Yh.out;rw[if_neg (by rw[HB1.out];simp),if_pos HB2.out]at this;split at this
      ·cases this
      ·rename_i x p h;exact⟨x,p,h,this⟩
     have hpr:=JY hE.ends hE.empty hx (by rw[hE.len];exact I7) yX.out;have bD:=kH hnx;have qE:=kH hpr;have hcall:=NN E hE gk (answ E hE gk) v10 bf (Du,Gx) h10 (by rw[iO.out];exact yX.out) (by rw[iO.out];exact hx);have HC:=kH hcall;clear hx hnx hpr hcall;go_wp2_with fail
     refine HC.out.mono ?_;rintro e jm ⟨k11,t11,KW,Jz,Bf,n11,c11,rfl,nG,v11,lC,h11,nD⟩;have mJ:=kH lC;have iW:=nD.blk h10 dG;have qZ:=jH.trans nD;clear lC;obtain⟨vals12,QD,hTs12,hn12⟩:=ru.out.keeps (nD.dL h10);have hTn12:aB jm (fun g=>w.heap.size<=g/\some g≠(Value.slice A7 n7 c7).ownBlock) _ _:=aB.weak (fun g _ hg=>⟨aaE jH.since.size hg,fun e1=>by obtain⟨_,hO4,_,_⟩:=ru.out;have:=(hO4.lt g e1.symm).2;omega⟩) _ _ nG;have hrz12:=qZ.since.size;have Jr:=kH QD;have HTs12:=kH hTs12;have HTn12:=kH hTn12;have Hn12:=kH hn12;clear QD hTs12 hTn12 hn12 nG;go_wp2_with (at_builtin;go_must (refine dm _ rfl (.tmp 56) (.tmp 59) _ rfl (w.heap.size) 24 i0 _ 5 64 Tryz.underlying22 hi0 hz0 hz1 hz2 rfl (.slice A7 n7 c7) n7 (List.flatten vals12) rfl (Jr.out.alloc _) ⟨jm.heap.size,0,none⟩ 1 1 [.int .i64 k11,.string t11,.int .i64 KW,.int .i64 Jz,.slice Bf n11 c11] rfl rfl (jB _ _ _ _ _ _ _ (by go_simp) (by go_simp) (by go_simp) (by go_simp) (by go_simp)) (by simp[Value.oneCell']) (by simp only[maxLen];omega) (by omega) (by simp;omega) ?_);intro vn mE hown hgrow hat;obtain⟨A12,c12,kP,-,-⟩:=hown.shape;subst kP;have HOWN12:=kH hown;have TI:=kH hgrow;have HAT12:=kH hat;clear hown hgrow hat)
     have oN:=kH (bL.pushed HTs12.out Hn12.out HTn12.out HOWN12.out TI.out HAT12.out);obtain⟨h12,mG,SX⟩:=kS h11 qZ Jr.out (aaD _) TI.out;have iN:=SX _ _ iW (fun e1=>by have:=(Jr.out.lt _ e1).1;have:=He.out;omega);clear SX;go_roundg gk
     case measure=>omega
     case rel=>exact⟨A12,n7+1,c12,v11,oZ++[Du],rfl,oN.out,by rw[mJ.out];exact bD.out,by rw[mJ.out];have:=qE.out.2;have:=Ao.out;show n7+1<=Gx.k;omega,h12,mG,iN⟩
    obtain⟨q1,hx,hnx⟩:∃q1,mO E.bs E.l gk (gZ E.l v7.st 7 [])=some q1/\jw E.bs E.l gk q1 (oZ++[aH E.l q1 v7.st.k 1 [] []])=some (kids,q):=by
     have:=Yh.out;rw[if_neg (by rw[HB1.out];simp),if_neg (by rw[HB2.out];simp)]at this;split at this
     ·cases this
     ·rename_i p h;exact⟨p,h,this⟩
    have hpr:=ED hE.ends hx (by rw[lZ,hE.len];exact I7)
    have hlt:v7.st.k<q1.k:=by
     have:=hpr.2 (by rw[EG,zo,zo,HB1.out,HB2.out];simp;exact yX.out);rw[lZ]at this;exact this
    have HX:=kH hx;have bD:=kH hnx;have Eb:=kH hlt;have hk2:bf.cell? ⟨E.gp,2,none⟩=some (.int .i64 (v10.st.k:Int)):=h10.blk.cell 2;rw[iO.out]at hk2;have hgl10:=h10.blk.lt;clear hx hnx hpr hlt Yh;go_wp2_with fail
    refine(MK E hE v10 _ h10 iO.out 7 []).mono ?_;rintro e jm ⟨⟨u11,rfl⟩,v11,lC,h11,nD⟩;have mJ:=kH lC;have iW:=nD.blk h10 dG;have qZ:=jH.trans nD;have FJ:=kH (ru.out.keeps (nD.dL h10));clear lC nD hk2 hgl10;obtain⟨wo,rfl⟩:∃wo:World,wo=wr:=⟨_,rfl⟩
    obtain⟨go,rfl⟩:∃go:Nat,go=gk:=⟨_,rfl⟩
    go_wp2_with fail
    go_loopg [] go (fun g2 wr=> ∃vx,mO E.bs E.l g2 vx.st=some q1/\PW wr E vx/\PM E w v wr vx/\ai wr w0.heap.size 24 #[.int .i64 0,.string ⟨#[]⟩,.int .i64 0,.int .i64 0,.slice none 0 0]/\bL wr w.heap.size (.slice A7 n7 c7) n7 oZ)
    case atStart=>exact⟨v11,by rw[mJ.out];exact HX.out,h11,qZ,iW,FJ.out⟩
    case round=>
     obtain⟨v12,Vg,h12,mG,iN,hK12⟩:=hrel
     cases gk with
     | zero=>simp[mO]at Vg
     | succ gk=>
      rw[mO]at Vg;have HX12:=kH Vg;have oN:=kH hK12;obtain⟨k',hk'⟩:∃x,bG E.l v12.st=x:=⟨_,rfl⟩
      have HKK:=kH hk';obtain⟨b3,hb3⟩:∃x,bB E.bs E.l v12.st [114,101,99,111,114,100]=x:=⟨_,rfl⟩
      have HB3:=kH hb3;obtain⟨b4,hb4⟩:∃x,bB E.bs E.l v12.st [112,114,111,99]=x:=⟨_,rfl⟩
      have p9:=kH hb4;have hkd:=fun w' (h:PW w' E v12)=>pz E hE v12 w' h
      have his:=fun x w' (h:PW w' E v12)=>yj E hE v12 x w' h
      rw[hk']at hkd;have rq:=kH hkd;have HIS:=kH his;have TL:=kH h12;obtain⟨bg,hbg⟩:∃x,(decide (k'≠5)&& !b3&& !b4)=x:=⟨_,rfl⟩
      have Zd:=HX12.out;rw[hk',hb3,hb4,hbg]at Zd;have HX13:=kH Zd;have YB:=kH hbg;clear Vg hK12 hk' hb3 hb4 hkd his hbg Zd HX12;go_upto_region 8 with fail
      go_cut [36] (fun s36 wx=>s36= .bool bg/\Below wr.heap.size wr wx)
      case first=>
       by_cases hk5:k'=5
       ·have e:bg=false:=by rw[<- YB.out];simp[hk5]
        subst e;have hki:((k':Int) !=5)=false:=by simp;omega
        clear hk5;go_wp2_with fail
        refine(rq.out _ TL.out).mono ?_;rintro e uw ⟨rfl,iV⟩;go_wp2_with fail
        go_meet
        exact⟨rfl,iV⟩
       ·have e:bg=(!b3&& !b4):=by rw[<- YB.out];simp[hk5]
        subst e;have hki:((k':Int) !=5)=true:=by simp;omega
        clear hk5;go_wp2_with fail
        refine(rq.out _ TL.out).mono ?_;rintro e uw ⟨rfl,iV⟩;have pI:=TL.out.below iV;go_wp2_with fail
        refine(HIS.out [114,101,99,111,114,100] _ pI).mono ?_;rintro e wY ⟨rfl,lD⟩;rw[HB3.out];have yx:=pI.below lD;have VD:=iV.trans (lD.mono iV.size);clear lD iV;cases b3
        ·go_wp2_with fail
         refine(HIS.out [112,114,111,99] _ yx).mono ?_;rintro e Gf ⟨rfl,vg⟩;rw[p9.out];go_wp2_with fail
         go_meet
         exact⟨by simp,VD.trans (vg.mono VD.size)⟩
        ·go_wp2_with fail
         go_meet
         exact⟨by simp,VD⟩
      case rest=>
       obtain⟨rfl,hbw⟩:=hcut;have h16:=TL.out.below hbw;have Df:=iN.below hbw iN.lt;have Yf:=mG.trans (PM.of_below hbw);have aas:=kH (oN.out.keeps (bO.of_below hbw));cases bg
       ·have hq1:v12.st=q1:=by simpa using HX13.out
        have Yq:=kH hq1;clear hbw hq1;go_wp2_with fail
        refine(leaf_to E hE v12 _ h16 Yq.out v7.st.k 1 []).mono ?_;rintro e Wo ⟨k17,t17,a17,z17,Rq,n17,c17,rfl,hT17,v17,EM,DU,ES⟩;have Jo:=kH EM;have Ff:=ES.blk h16 Df;have K6:=Yf.trans ES;clear EM;obtain⟨vals18,hO18,hTs18,hn18⟩:=aas.out.keeps (ES.dL h16);have hTn18:aB Wo (fun g=>w.heap.size<=g/\some g≠(Value.slice A7 n7 c7).ownBlock) _ _:=aB.weak (fun g _ hg=>⟨aaE Yf.since.size hg,fun e1=>by obtain⟨_,hO4,_,_⟩:=aas.out;have:=(hO4.lt g e1.symm).2;omega⟩) _ _ hT17;have hrz18:=K6.since.size;have aap:=kH hO18;have HTs18:=kH hTs18;have HTn18:=kH hTn18;have Hn18:=kH hn18;clear hO18 hTs18 hTn18 hn18 hT17;go_wp2_with (at_builtin;go_must (refine dm _ rfl (.tmp 39) (.tmp 43) _ rfl (w.heap.size) 24 i0 _ 5 64 Tryz.underlying22 hi0 hz0 hz1 hz2 rfl (.slice A7 n7 c7) n7 (List.flatten vals18) rfl (aap.out.alloc _) ⟨Wo.heap.size,0,none⟩ 1 1 [.int .i64 k17,.string t17,.int .i64 a17,.int .i64 z17,.slice Rq n17 c17] rfl rfl (jB _ _ _ _ _ _ _ (by go_simp) (by go_simp) (by go_simp) (by go_simp) (by go_simp)) (by simp[Value.oneCell']) (by simp only[maxLen];omega) (by omega) (by simp;omega) ?_);intro vn w18 hown hgrow hat;obtain⟨A18,c18,kP,-,-⟩:=hown.shape;subst kP;have HOWN18:=kH hown;have TH:=kH hgrow;have HAT18:=kH hat;clear hown hgrow hat)
        have Rf:=kH (bL.pushed HTs18.out Hn18.out HTn18.out HOWN18.out TH.out HAT18.out);obtain⟨h18,P18,SV⟩:=kS DU K6 aap.out (aaD _) TH.out;have Fe:=SV _ _ Ff (fun e1=>by have:=(aap.out.lt _ e1).1;have:=He.out;omega);clear SV;go_roundg go
        case measure=>omega
        case rel=>exact⟨A18,n7+1,c18,v17,oZ++[aH E.l q1 v7.st.k 1 [] []],rfl,Rf.out,by rw[Jo.out];exact bD.out,by rw[Jo.out];have:=Eb.out;have:=Ao.out;show n7+1<=q1.k;omega,h18,P18,Fe⟩
       ·have hk5:bG E.l v12.st≠5:=by
         rw[HKK.out];have:=YB.out;simp only[aaF,decide_eq_true_eq]at this;exact this.1.1
        have hnx:mO E.bs E.l gk (ay E.l v12.st)=some q1:=by simpa using HX13.out
        have Bd:=kH hnx;have HK5':=kH hk5;clear hbw hnx hk5;go_wp2_with fail
        have mW:Hid (v12.st=v12.st):=kH rfl;refine(vH E hE v12 _ h16 mW.out HK5'.out).mono ?_;rintro e Wo ⟨rfl,v17,EM,DU,ES⟩;have Jo:=kH EM;have Ff:=ES.blk h16 Df;have K6:=Yf.trans ES;have Ml:=kH (aas.out.keeps (ES.dL h16));clear EM ES;go_wp2_with fail
        go_roundg gk
        case measure=>omega
        case rel=>exact⟨v17,by rw[Jo.out];exact Bd.out,DU,K6,Ff,Ml.out⟩
theorem end_any(E:PE)(hE:E.Ok)(v:PV)(w:World)(hpw:PW w E v)(h5:bG E.l v.st=5):Calls Tryz.prog 75 #[.pointer (some ⟨E.gp,0,none⟩)] w fun e w'=> ∃DA dn dc,e= .returned (.slice DA dn dc)/\dn=(gN (ic E.bs) v.st.ds).length/\aL w' w.heap.size 78 5 (.slice DA dn dc) dn ((gN (ic E.bs) v.st.ds).flatMap bR)/\Below w.heap.size w w':=by
 have H5:=kH h5;clear h5;go_enter Tryz.func75,Tryz.ntmps75
 go_wp2_with fail
 refine(pz E hE v _ hpw).mono ?_;rintro e w8 ⟨rfl,dK⟩;rw[H5.out];have h8:=hpw.below dK;go_wp2_with fail
 have hc4:w8.cell? ⟨E.gp,4,none⟩=some v.lv:=h8.blk.cell 4;have hc0:w8.cell? ⟨E.gp,0,none⟩=some (.string E.s):=h8.blk.cell 0;obtain⟨A4,c4,hv4,Kj,-⟩:=h8.own.shape;rw[hv4]at hc4;have hlen:=h8.good.len (m:=4096) (by have:=hE.get v.st.k;have:=hE.size;omega);have CZ:=h8.blk.lt;obtain⟨nd,hnd⟩:∃x,v.st.ds.length=x:=⟨_,rfl⟩
 rw[hnd]at hc4 Kj hlen;have Jp:=kH (h8.own.rowAt (cells:=bR) (l:=v.st.ds) hv4 rfl (by intro c _;rfl) rfl);have rF:=kH hnd
 have hll:(ic E.bs).length<=4097:=by
  have:=GG E.bs;have h1:E.bs.length=E.s.size:=by unfold PE.bs;exact bS _
  have:=hE.size;omega
 have Lh:=kH hll;clear hnd hll hv4;refine oV (fun w'=>w'.cell? ⟨E.gp,0,none⟩=some (.string E.s)/\w'.cell? ⟨E.gp,4,none⟩=some (.slice A4 nd c4)) [] [(0,true),(1,true),(2,true),(3,true),(5,true),(6,true),(7,true),(8,true),(4,false),(9,false),(10,false)] (by kernel_rfl) (by kernel_rfl) rfl (by kernel_rfl) ?_;have hS0:w8.drew.cell? ⟨E.gp,0,none⟩=some (.string E.s)/\w8.drew.cell? ⟨E.gp,4,none⟩=some (.slice A4 nd c4):=⟨hc0,hc4⟩
 refine iC (by simp only[aaM,aaK];rfl) (by rfl) hS0 (by intro w' hSw;obtain⟨hs1,hs2⟩:=hSw;go_simp;rfl) ?_;iterate 7(simp only[Act.put,sA,sZ,sC];refine iC (by simp only[aaM,aaL,aaK];rfl) (by rfl) hS0 (by intro w' hSw;obtain⟨hs1,hs2⟩:=hSw;go_simp;rfl) ?_)
 simp only[Act.put,sA,sZ,sC];refine rJ (by simp only[aaM,aaL,aaK];rfl) (by rfl) ?_;go_simp
 refine(GH E.s _ hE.size).mono ?_;rintro e w9 ⟨A9,n9,c9,rfl,ER,Ky,dx⟩;have ve:Below w8.heap.size w8 w9:=((Below.refl w8.heap.size w8).drew).trans dx;refine⟨⟨(ve.cell (p:=⟨E.gp,0,none⟩) CZ).trans hc0,(ve.cell (p:=⟨E.gp,4,none⟩) CZ).trans hc4⟩,?_⟩;have hra:=Ky.rowAt (cells:=bR) (l:=ic E.bs) rfl rfl (by intro c _;rfl) ER.symm;obtain⟨_,_,iy,hn9c,-⟩:=Ky.shape;cases iy
 have hn9':(ic E.bs).length=n9:=ER.symm;have hrb:=(Jp.out.below ve (aaD _)).mono ve.size;have PX:=J7 (ic E.bs) v.st.ds A9 A4 c9 c4 w9 hra hrb (by have:=Lh.out;omega) (by have:=rF.out;omega) (by omega) (by have:=rF.out;omega);rw[rF.out,hn9']at PX;clear ER hn9';refine rJ (by simp only[aaM,aaL,aaK];rfl) (by rfl) ?_;go_simp
 refine PX.mono ?_;rintro e bf ⟨oG,n10,c10,rfl,pE,oh,ji⟩;have lS:Below w8.heap.size w8 bf:=ve.trans (ji.mono ve.size);refine⟨⟨(lS.cell (p:=⟨E.gp,0,none⟩) CZ).trans hc0,(lS.cell (p:=⟨E.gp,4,none⟩) CZ).trans hc4⟩,?_⟩;refine oW (w':=bf) (by simp only[aaM,aaL,aaK];rfl) (by rfl) (by go_simp;rfl) (fun _=>⟨(lS.cell (p:=⟨E.gp,0,none⟩) CZ).trans hc0,(lS.cell (p:=⟨E.gp,4,none⟩) CZ).trans hc4⟩) ?_;simp only[Act.put,sA,sZ,sC];refine uX ?_;have iP:Hid (∃DA dn dc,Ending.returned (.slice oG n10 c10)= .returned (.slice DA dn dc)/\dn=(gN (ic E.bs) v.st.ds).length/\aL bf w.heap.size 78 5 (.slice DA dn dc) dn ((gN (ic E.bs) v.st.ds).flatMap bR)/\Below w.heap.size w bf):=kH ⟨oG,n10,c10,rfl,pE,oh.mono (by have:=ve.size;have:=dK.size;omega),dK.trans (lS.mono dK.size)⟩;rw[<- pE];clear pE oh ji lS;go_wp2_with fail
 refine bodyPost_ret (v:=.slice oG n10 c10) (by simp[results,Tryz.results75,go_sem]) rfl ?_;exact iP.out
theorem NK(s:ByteArray)(w0:World)(hs:s.size<=4096)(f:Nat)(t:aa)(q:PS)(hf:aJ s.data.toList (iK s.data.toList) f .stmt ⟨0,0,[]⟩=some ([t],q))(h5:bG (iK s.data.toList) q=5):
 Calls Tryz.prog 38 #[.string s] w0 (zw w0 t (gN (ic s.data.toList) q.ds)):=by
 have hgt:¬(4096:Int)<s.size:=by omega
 have HF:=kH hf;have H5:=kH h5;clear hf h5;go_enter Tryz.func38,Tryz.ntmps38
 go_wp2_with fail
 generalize hW1:w0.alloc (.cells #[.int .i64 0,.string ⟨#[]⟩,.int .i64 0,.int .i64 0,.slice none 0 0] 24)=W1
 have hb1:Below w0.heap.size w0 W1:=by rw[<- hW1];exact af _ _
 have hRR:ai W1 w0.heap.size 24 #[.int .i64 0,.string ⟨#[]⟩,.int .i64 0,.int .i64 0,.slice none 0 0]:=by rw[<- hW1];exact ai.new w0 _ _
 refine(MC s W1 hs).mono ?_;rintro e w ⟨E,v,rfl,hE,hbs,hl,hlo,hst,hpw,hbw⟩;have hR0:=hRR.below hbw hRR.lt;have hgw:w0.heap.size+1<=w.heap.size:=hR0.lt;have tY:=kH (hb1.trans (hbw.mono hb1.size));have Xm:W1.heap.size=w0.heap.size+1:=by rw[<- hW1];simp
 have HZW:=kH Xm;have Hd:=kH hlo;have TK:=kH hbs;have HL:=kH hl;have He:=kH hgw;have hcall:=(answ E hE f).stmt v w t q hpw (by rw[hbs,hl,hst];exact HF.out);have HC:=kH hcall;clear hW1 hb1 hRR hbw hbs hl hlo hst hgw Xm hcall;go_wp2_with fail
 refine HC.out.mono ?_;rintro e w2 ⟨k2,t2,a2,z2,A2,n2,c2,rfl,gX,v2,hv2,h2,hm2⟩;try dsimp only at hv2 gX
 have hR2:=hm2.blk hpw hR0;have gD:=kH hv2;go_wp2_with fail
 generalize hW3:w2.alloc (.cells #[.int .i64 k2,.string t2,.int .i64 a2,.int .i64 z2,.slice A2 n2 c2] 24)=w3
 have hb3:Below w2.heap.size w2 w3:=by rw[<- hW3];exact af _ _
 have Qs:ai w3 w2.heap.size 24 #[.int .i64 k2,.string t2,.int .i64 a2,.int .i64 z2,.slice A2 n2 c2]:=by rw[<- hW3];exact ai.new w2 _ _
 have hl3:=Qs.lt;have h3:=h2.below hb3;have df:=hR2.below hb3 hR2.lt;have j3:=aB.keeps (bO.of_below hb3) _ _ gX;obtain⟨⟨q0,q1,q2,q3,q4⟩,-⟩:=Qs.five;have hsz2:=hm2.since.size;have hlow:=hE.low;have L8:=(tY.out.trans (hm2.below hpw (B:=w0.heap.size) (by have:=Hd.out;have:=HZW.out;omega) hlow)).trans (hb3.mono (by have:=He.out;omega));have V7:=kH L8;clear hW3 L8;have hend:=end_any E hE v2 w3.drew (h3.below (Below.refl _ _).drew) (by rw[hv2,HL.out];exact H5.out);rw[hv2,TK.out]at hend;have aV:=kH hend;clear hend;refine oV (fun w'=>w'.cell? ⟨w2.heap.size,0,none⟩=some (.int .i64 k2)/\w'.cell? ⟨w2.heap.size,1,none⟩=some (.string t2)/\w'.cell? ⟨w2.heap.size,2,none⟩=some (.int .i64 a2)/\w'.cell? ⟨w2.heap.size,3,none⟩=some (.int .i64 z2)/\w'.cell? ⟨w2.heap.size,4,none⟩=some (.slice A2 n2 c2)) [] [(0,true),(1,true),(2,false),(3,false),(4,false),(5,false)] (by kernel_rfl) (by kernel_rfl) rfl (by kernel_rfl) ?_;have hS0:w3.drew.cell? ⟨w2.heap.size,0,none⟩=some (.int .i64 k2)/\w3.drew.cell? ⟨w2.heap.size,1,none⟩=some (.string t2)/\w3.drew.cell? ⟨w2.heap.size,2,none⟩=some (.int .i64 a2)/\w3.drew.cell? ⟨w2.heap.size,3,none⟩=some (.int .i64 z2)/\w3.drew.cell? ⟨w2.heap.size,4,none⟩=some (.slice A2 n2 c2):=⟨q0,q1,q2,q3,q4⟩
 refine iC (by simp only[aaM,aaK];rfl) (by rfl) hS0 (by intro w' hSw;obtain⟨hs1,hs2,hs3,hs4,hs5⟩:=hSw;go_simp;rfl) ?_;simp only[Act.put,sA,sZ,sC];refine iC (by simp only[aaM,aaL,aaK];rfl) (by rfl) hS0 (by intro w' hSw;obtain⟨hs1,hs2,hs3,hs4,hs5⟩:=hSw;go_simp;rfl) ?_;simp only[Act.put,sA,sZ,sC];refine rJ (by simp only[aaM,aaL,aaK];rfl) (by rfl) ?_;go_simp
 refine aV.out.mono ?_;rintro e bf ⟨oG,n10,c10,rfl,pE,oh,ji⟩;have lS:Below w3.heap.size w3 bf:=((Below.refl w3.heap.size w3).drew).trans ji;refine⟨⟨(lS.cell (p:=⟨w2.heap.size,0,none⟩) hl3).trans q0,(lS.cell (p:=⟨w2.heap.size,1,none⟩) hl3).trans q1,(lS.cell (p:=⟨w2.heap.size,2,none⟩) hl3).trans q2,(lS.cell (p:=⟨w2.heap.size,3,none⟩) hl3).trans q3,(lS.cell (p:=⟨w2.heap.size,4,none⟩) hl3).trans q4⟩,?_⟩;have dG:=df.below lS df.lt;obtain⟨⟨r0,r1,r2,r3,r4⟩,g0,g1,g2,g3,g4⟩:=dG.five;have hlr:=dG.lt;have hlr3:=df.lt;have hlr2:=hR2.lt;have hl10:w2.heap.size<bf.heap.size:=Nat.lt_of_lt_of_le hl3 lS.size
 have EO:az (fun g=>g=w0.heap.size) bf (bZ bf w0.heap.size (.int .i64 k2) (.string t2) (.int .i64 a2) (.int .i64 z2) (.slice A2 n2 c2)):=by
  unfold bZ;exact(((((az.refl (fun g=>g=w0.heap.size) bf).setCell (.inl rfl) _).setCell (.inl rfl) _).setCell (.inl rfl) _).setCell (.inl rfl) _).setCell (.inl rfl) _
 have hSW:(bZ bf w0.heap.size (.int .i64 k2) (.string t2) (.int .i64 a2) (.int .i64 z2) (.slice A2 n2 c2)).cell? ⟨w2.heap.size,0,none⟩=some (.int .i64 k2)/\(bZ bf w0.heap.size (.int .i64 k2) (.string t2) (.int .i64 a2) (.int .i64 z2) (.slice A2 n2 c2)).cell? ⟨w2.heap.size,1,none⟩=some (.string t2)/\(bZ bf w0.heap.size (.int .i64 k2) (.string t2) (.int .i64 a2) (.int .i64 z2) (.slice A2 n2 c2)).cell? ⟨w2.heap.size,2,none⟩=some (.int .i64 a2)/\(bZ bf w0.heap.size (.int .i64 k2) (.string t2) (.int .i64 a2) (.int .i64 z2) (.slice A2 n2 c2)).cell? ⟨w2.heap.size,3,none⟩=some (.int .i64 z2)/\(bZ bf w0.heap.size (.int .i64 k2) (.string t2) (.int .i64 a2) (.int .i64 z2) (.slice A2 n2 c2)).cell? ⟨w2.heap.size,4,none⟩=some (.slice A2 n2 c2):=by
  have hX10:=(Qs.below lS hl3).since EO (by omega);exact hX10.five.1
 have Kv:=aB.keeps (bO.of_below lS) _ _ j3;replace Kv:=aB.keeps (w':=(bZ bf w0.heap.size (.int .i64 k2) (.string t2) (.int .i64 a2) (.int .i64 z2) (.slice A2 n2 c2))) (fun g cs hg hc=>EO.block g (aaG.1 hc).1 (by have:=He.out;omega)) _ _ Kv
 replace Kv:=aB.weak (Q:=fun g=>w0.heap.size<=g) (fun g _ hg=>by have:=He.out;omega) _ _ Kv
 have Tf:=(oh.since EO (fun g hg e1=>by have h1:=(oh.lt g hg).1;have h3:w3.drew.heap.size=w3.heap.size:=rfl;omega)).mono (base':=w0.heap.size) (by have h3:w3.drew.heap.size=w3.heap.size:=rfl;omega);have hBW:=(V7.out.trans (lS.mono (by omega))).trans (EO.toBelow (B:=w0.heap.size) (by omega) (fun g hg=>by omega))
 have XK:ai (bZ bf w0.heap.size (.int .i64 k2) (.string t2) (.int .i64 a2) (.int .i64 z2) (.slice A2 n2 c2)) w0.heap.size 24 #[.int .i64 k2,.string t2,.int .i64 a2,.int .i64 z2,.slice A2 n2 c2]:=by
  have:=((((dG.fU 0 (.int .i64 k2)).fU 1 (.string t2)).fU 2 (.int .i64 a2)).fU 3 (.int .i64 z2)).fU 4 (.slice A2 n2 c2);unfold bZ;simpa using this
 have iP:Hid (zw w0 t (gN (ic s.data.toList) q.ds) (.returned (.tuple #[.agg #[.int .i64 k2,.string t2,.int .i64 a2,.int .i64 z2,.slice A2 n2 c2],.slice oG n10 c10,.int .i64 0])) (bZ bf w0.heap.size (.int .i64 k2) (.string t2) (.int .i64 a2) (.int .i64 z2) (.slice A2 n2 c2))):=kH ⟨_,_,_,_,_,_,_,_,_,_,rfl,Kv,pE,Tf,hBW⟩;refine Mq (w':=(bZ bf w0.heap.size (.int .i64 k2) (.string t2) (.int .i64 a2) (.int .i64 z2) (.slice A2 n2 c2))) (by simp only[aaM,aaL,aaK];rfl) (by rfl) (by unfold bZ;go_simp) (fun _=>hSW) ?_;simp only[Act.put];iterate 2(refine oW (w':=(bZ bf w0.heap.size (.int .i64 k2) (.string t2) (.int .i64 a2) (.int .i64 z2) (.slice A2 n2 c2))) (by simp only[aaM,aaL,aaK];rfl) (by rfl) (by go_simp;rfl) (fun _=>hSW) ?_;simp only[Act.put,sA,sZ,sC])
 refine uX ?_;rw[<- pE];clear pE oh ji lS EO hSW Kv Tf hBW r0 r1 r2 r3 r4 g0 g1 g2 g3 g4 hS0;generalize bZ bf w0.heap.size (.int .i64 k2) (.string t2) (.int .i64 a2) (.int .i64 z2) (.slice A2 n2 c2)=WZ at iP XK⊢
 obtain⟨⟨r0,r1,r2,r3,r4⟩,-⟩:=XK.five;go_wp2_with fail
 refine bodyPost_ret (v:=.tuple #[.agg #[.int .i64 k2,.string t2,.int .i64 a2,.int .i64 z2,.slice A2 n2 c2],.slice oG n10 c10,.int .i64 0]) (by simp[results,Tryz.results38,go_sem,r0,r1,r2,r3,r4]) rfl ?_;exact iP.out
end Go.Proofs.YtoepemlnlpamlaaGreat
