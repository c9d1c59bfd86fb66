/- The law NamesVisibleAt holds where what it reads is of bulk at most 1048576: it returns true, and its arguments read as before. Part 15: Parse Stat. -/
import Derived.Test.YtoepemlnlpamlaaGreatVisa14
set_option maxRecDepth 100000
set_option maxHeartbeats 4000000
namespace Go.Proofs.YtoepemlnlpamlaaGreat
open Go.RowKit
section
variable {s:bB}{l:List kD}
theorem QZ(I:oF l){f:Nat}{p:PS}{x:ae}{q:PS}(h:pU s l f p=some (x,q))(J:p.k<l.length)(H:bM l p≠5):Le l p q/\p.k<q.k:=by
 obtain⟨B,x0,K,D,E,G⟩:=LX (s:=s) I J H;have C:=j4 (F:=fun f=>pU s l f p) (fun f y h=>xw f _ y h) (Nat.le_max_left f B) h;have A:=j4 (F:=fun f=>pU s l f p) (fun f y h=>xw f _ y h) (Nat.le_max_right f B) D;rw[C]at A;cases A
 exact⟨E,G⟩
theorem Xn(J:oF l)(A:qY s l){f:Nat}{p:PS}{x:ae}{q:PS}(h:uT s l f p=some (x,q))(K:p.k<l.length)(I:bM l p≠5):Le l p q/\p.k<q.k:=by
 obtain⟨C,x0,L,E,G,H⟩:=Rj (s:=s) J A K I;have D:=j4 (F:=fun f=>uT s l f p) (fun f y h=>Ap f _ y h) (Nat.le_max_left f C) h;have B:=j4 (F:=fun f=>uT s l f p) (fun f y h=>Ap f _ y h) (Nat.le_max_right f C) E;rw[D]at B;cases B
 exact⟨G,H⟩
theorem Rs(H:oF l){f:Nat}{p:PS}{q:PS}(h:nO s l f p=some q)(I:p.k<l.length):Le l p q/\((decide (bM l p≠5)&& !bF s l p [114,101,99,111,114,100]&& !bF s l p [112,114,111,99])=true->p.k<q.k):=by
 obtain⟨B,J,D,E,G⟩:=OE (s:=s) H (l.length) p I (by omega);have C:=j4 (F:=fun f=>nO s l f p) (fun f y h=>yZ f _ y h) (Nat.le_max_left f B) h;have A:=j4 (F:=fun f=>nO s l f p) (fun f y h=>yZ f _ y h) (Nat.le_max_right f B) D;rw[C]at A;cases A
 exact⟨E,G⟩
end
def Bc(w0:World)(t:ae)(ds:List Dg)(e:Ending)(w':World):Prop:=
 ∃k x a z A n c DA dn dc,e= .returned (.tuple #[.agg #[.int .i64 k,.string x,.int .i64 a,.int .i64 z,.slice A n c],.slice DA dn dc,.int .i64 0])/\aC w' (fun g=>w0.heap.size<=g) t [.int .i64 k,.string x,.int .i64 a,.int .i64 z,.slice A n c]/\dn=ds.length/\aK w' w0.heap.size 78 5 (.slice DA dn dc) dn (ds.flatMap bO)/\Below w0.heap.size w0 w'
theorem leaf_to(E:PE)(D:E.Ok)(v:PV)(w:World)(A:PW w E v){p:PS}(B:v.st=p)(first:Nat)(kind:Int)(t:bB):
 Calls Tryz.prog 71 #[.pointer (some ⟨E.gp,0,none⟩),.int .i64 (first:Int),.int .i64 kind,.string (bf t),.slice none 0 0] w (bD E w v (aI E.l p first kind t [],p)):=by
 subst B;refine(iK E D v w A first kind t w.heap.size).mono ?_;rintro e w' ⟨rfl,C,F⟩;exact⟨_,_,_,_,_,_,_,rfl,F,v,rfl,A.below C,PM.of_below C⟩
theorem Ji(s:bB):(iJ s).length<=s.length+1:=aac (List.length_filterMap_le _ _) (C9 s)
theorem Zi(s:ByteArray)(H:World)(hs:s.size<=4096):Calls Tryz.prog 37 #[.string s] H fun e w'=> ∃f t ds,tV f s.data.toList=some (t,ds)/\Bc H t ds e w':=by
 obtain⟨i0,hi0,hz0,hz1,hz2⟩:=info_parts sF;have hgt:¬(4096:Int)<s.size:=by omega
 go_in
 go_wp2_with fail
 generalize hW1:H.alloc (.cells #[.int .i64 0,.string ⟨#[]⟩,.int .i64 0,.int .i64 0,.slice none 0 0] 24)=W1
 have Z:Below H.heap.size H W1:=by rw[<- hW1];exact ag _ _
 have hRR:aj W1 H.heap.size 24 #[.int .i64 0,.string ⟨#[]⟩,.int .i64 0,.int .i64 0,.slice none 0 0]:=by rw[<- hW1];exact aj.new H _ _
 refine(Ou s W1 hs).mono ?_;rintro e w ⟨E,v,rfl,I,hbs,hl,hlo,hst,hpw,N⟩;have hR0:=hRR.below N hRR.lt;have hgw:H.heap.size+1<=w.heap.size:=hR0.lt;have mJ:=kH (Z.trans (N.mono Z.size));obtain⟨f,U,q,hP⟩:=progL_ex I.ends I.empty (E.l.length) v.st [] (by rw[I.len];exact hpw.at_) (by omega);have HP:=kH hP;have Wj:=kH hbs;have HL:=kH hl;have yz:=kH hlo;have HST:=kH hst;have JK:=kH hgw;have ZG:W1.heap.size=H.heap.size+1:=by rw[<- hW1];simp
 have HZW:=kH ZG;clear hW1 Z hRR N hP hbs hl hlo hst hgw ZG;have hgl:=hpw.blk.lt;go_wp2_with fail
 generalize BK:w.alloc (.cells #[] 24)=w2
 have W:Below w.heap.size w w2:=by rw[<- BK];exact ag _ _
 have hK2:bY w2 w.heap.size (.slice (some ⟨w.heap.size,0,none⟩) 0 0) 0 []:=by
  refine⟨[],?_,rfl,rfl⟩;have hn:=aj.new w 24 #[];rw[BK]at hn;exact aK.block (n:=0) (cur:=#[]) (aab _) hn (by simp[maxLen]) rfl
 have h2:=hpw.below W;have P2:=PM.of_below (E:=E) (v:=v) W;have hR2:=hR0.below W (by have:=JK.out;omega);have JJ:=kH hK2;clear BK W hK2 hR0;go_loopg [6] f (fun gk s6 wr=> ∃A n c vx ts,s6= .slice A n c/\bY wr w.heap.size (.slice A n c) n ts/\mQ E.bs E.l gk vx.st ts=some (U,q)/\n<=vx.st.k/\PW wr E vx/\PM E w v wr vx/\aj wr H.heap.size 24 #[.int .i64 0,.string ⟨#[]⟩,.int .i64 0,.int .i64 0,.slice none 0 0])
 case atStart=>exact⟨_,0,_,v,[],rfl,JJ.out,HP.out,Nat.zero_le _,h2,P2,hR2⟩
 case round=>
  obtain⟨O,F,P,X,pX,rfl,CK,hx7,uq,h7,P7,fD⟩:=hrel
  cases gk with
  | zero=>simp[mQ]at hx7
  | succ gk=>
   rw[mQ]at hx7;have rZ:=kH hx7;have Ns:=kH CK;have KQ:=h7.at_;have Ay:=I.most;have Sa:F<=5001:=by omega
   obtain⟨k,hk⟩:∃x,bM E.l X.st=x:=⟨_,rfl⟩
   have HK:=kH hk;obtain⟨b1,Z⟩:∃x,bF E.bs E.l X.st [114,101,99,111,114,100]=x:=⟨_,rfl⟩
   have u:=kH Z;obtain⟨b2,W⟩:∃x,bF E.bs E.l X.st [112,114,111,99]=x:=⟨_,rfl⟩
   have HB2:=kH W;have vR:=kH uq;clear hx7 CK hk Z W uq;go_wp2_with fail
   have lT:Hid (X.st=X.st):=kH rfl;refine(wT E I X _ h7 lT.out HK.out).mono ?_;rintro e w8 ⟨rfl,v8,ed,h8,dY⟩;have gQ:=kH ed;have eF:=dY.blk h7 fD;have P8:=P7.trans dY;have nQ:=kH (Ns.out.keeps (dY.dX h7));clear ed dY;by_cases K:k=5
   ·subst K
    have hkk:pX=U/\X.st=q:=by
     have:=rZ.out;rw[if_pos HK.out]at this;simpa using this
    obtain⟨rfl,vM⟩:=hkk;have Hu:=kH vM;clear vM;go_wp2_with fail
    have z:w8.cell? ⟨E.gp,4,none⟩=some v8.lv:=h8.blk.cell 4;obtain⟨A4,c4,hv4,Sb,-⟩:=h8.own.shape;rw[hv4]at z;have hlen:=h8.good.len (m:=4096) (by have:=I.get v8.st.k;have:=I.size;omega);have EP:=h8.blk.lt;obtain⟨nd,hnd⟩:∃x,v8.st.ds.length=x:=⟨_,rfl⟩
    rw[hnd]at z Sb hlen;have hrow:=h8.own.rowAt (cells:=bO) (l:=v8.st.ds) hv4 rfl (by intro c _;rfl) rfl;have Lp:=kH hrow;have lh:=kH hnd;have hll:=Ji s.data.toList;rw[bQ]at hll;have Nr:=kH hll;clear hrow hnd hll hv4;refine pV (fun w'=>w'.cell? ⟨E.gp,4,none⟩=some (.slice A4 nd c4)) [] [(0,true),(1,true),(2,true),(3,true),(4,true),(6,true),(7,true),(8,true),(9,true),(5,false),(10,false),(11,false),(12,false),(13,false)] (by kernel_rfl) (by kernel_rfl) rfl (by kernel_rfl) ?_;have hS0:w8.drew.cell? ⟨E.gp,4,none⟩=some (.slice A4 nd c4):=z;refine iV (by simp only[aak,aai];rfl) (by rfl) hS0 (by intro w' hSw;go_simp;rfl) ?_;iterate 8(simp only[Act.put,sA,sZ,sC];refine iV (by simp only[aak,aaj,aai];rfl) (by rfl) hS0 (by intro w' hSw;go_simp;rfl) ?_)
    simp only[Act.put,sA,sZ,sC];refine sQ (by simp only[aak,aaj,aai];rfl) (by rfl) ?_;go_simp
    refine(Jj s _ hs).mono ?_;rintro e w9 ⟨A9,n9,c9,rfl,ZP,MN,eP⟩;have hS9:w9.cell? ⟨E.gp,4,none⟩=some (.slice A4 nd c4):=(eP.cell (p:=⟨E.gp,4,none⟩) EP).trans z;refine⟨hS9,?_⟩;have wG:Below w8.heap.size w8 w9:=((Below.refl w8.heap.size w8).drew).trans eP;have hra:=MN.rowAt (cells:=bO) (l:=iJ s.data.toList) rfl rfl (by intro c _;rfl) ZP.symm;obtain⟨_,_,gX,hn9c,-⟩:=MN.shape;cases gX
    have hrb:=(Lp.out.below wG (aab _)).mono wG.size;have Sc:=Mk (iJ s.data.toList) v8.st.ds A9 A4 c9 c4 w9 hra hrb (by have:=Nr.out;omega) (by have:=lh.out;omega) (by omega) (by have:=lh.out;omega);rw[lh.out]at Sc;refine sQ (by simp only[aak,aaj,aai];rfl) (by rfl) ?_;go_simp
    refine Sc.mono ?_;rintro e R ⟨lJ,n10,c10,rfl,qc,oV,jg⟩;have mF:Below w8.heap.size w8 R:=wG.trans (jg.mono wG.size);have hS10:R.cell? ⟨E.gp,4,none⟩=some (.slice A4 nd c4):=(mF.cell (p:=⟨E.gp,4,none⟩) EP).trans z;refine⟨hS10,?_⟩;have dN:=eF.below mF eF.lt;obtain⟨⟨r0,r1,r2,r3,r4⟩,g0,g1,g2,g3,g4⟩:=dN.five
    have hne10:E.gp≠H.heap.size:=by
     have h1:=I.low;have h3:=yz.out;have h4:=HZW.out;omega
    have hlr:=dN.lt;refine Od (w':=fw R H.heap.size (.int .i64 2) (.string ⟨#[]⟩) (.int .i64 0) (.int .i64 (s.size:Int)) (.slice O F P)) (by simp only[aak,aaj,aai];rfl) (by rfl) (by unfold fw;go_simp) (fun _=>by unfold fw;go_simp) ?_;simp only[Act.put];iterate 2(refine pW (w':=fw R H.heap.size (.int .i64 2) (.string ⟨#[]⟩) (.int .i64 0) (.int .i64 (s.size:Int)) (.slice O F P)) (by simp only[aak,aaj,aai];rfl) (by rfl) (by go_simp;rfl) (fun _=>by unfold fw;go_simp) ?_;simp only[Act.put,sA,sZ,sC])
    refine wu ?_
    have GI:aF (fun g=>g=H.heap.size) R (fw R H.heap.size (.int .i64 2) (.string ⟨#[]⟩) (.int .i64 0) (.int .i64 (s.size:Int)) (.slice O F P)):=by
     unfold fw;exact(((((aF.refl (fun g=>g=H.heap.size) R).setCell (.inl rfl) _).setCell (.inl rfl) _).setCell (.inl rfl) _).setCell (.inl rfl) _).setCell (.inl rfl) _
    have hkW:=(nQ.out.keeps (bZ.of_below mF)).keeps (w':=fw R H.heap.size (.int .i64 2) (.string ⟨#[]⟩) (.int .i64 0) (.int .i64 (s.size:Int)) (.slice O F P)) (fun g cs hg hc=>GI.block g (aae.1 hc).1 (by have:=JK.out;omega));have MM:=aC.weak (Q:=fun g=>H.heap.size<=g) (fun g _ hg=>by have:=JK.out;omega) _ _ (hkW.node 2 (bf []) 0 (s.size:Int));have hlt8:=eF.lt;have hn10':=qc;have hz9:H.heap.size<=w9.heap.size:=by have:=wG.size;omega
    have Vs:=(oV.since GI (fun g hg y=>by have:=(oV.lt g hg).1;have:=wG.size;omega)).mono hz9;have hbW:=GI.toBelow (B:=H.heap.size) (Nat.le_of_lt hlr) (fun g hg=>by omega);have hlow:=I.low;have hBW:=((mJ.out.trans (P8.below hpw (B:=H.heap.size) (by have:=yz.out;have:=HZW.out;omega) hlow)).trans (mF.mono (by omega))).trans hbW;have hds:ig (iJ s.data.toList) v8.st.ds=ig (iJ s.data.toList) q.ds:=by rw[gQ.out,Hu.out]
    rw[hds]at Vs qc
    have zO:tV f s.data.toList=some (.node 2 (bf []) 0 (s.size:Int) pX,ig (iJ s.data.toList) q.ds):=by
     unfold tV;have:=HP.out;rw[Wj.out,HL.out,HST.out]at this;rw[this,bQ]
    have jL:Hid (∃f t ds,tV f s.data.toList=some (t,ds)/\Bc H t ds (.returned (.tuple #[.agg #[.int .i64 2,.string (bf []),.int .i64 0,.int .i64 (s.size:Int),.slice O F P],.slice lJ n10 c10,.int .i64 0])) (fw R H.heap.size (.int .i64 2) (.string ⟨#[]⟩) (.int .i64 0) (.int .i64 (s.size:Int)) (.slice O F P))):=kH ⟨f,_,_,zO,_,_,_,_,_,_,_,_,_,_,rfl,MM,qc,Vs,hBW⟩
    have Z7:aj (fw R H.heap.size (.int .i64 2) (.string ⟨#[]⟩) (.int .i64 0) (.int .i64 (s.size:Int)) (.slice O F P)) H.heap.size 24 #[.int .i64 2,.string ⟨#[]⟩,.int .i64 0,.int .i64 (s.size:Int),.slice O F P]:=by
     have:=((((dN.gu 0 (.int .i64 2)).gu 1 (.string ⟨#[]⟩)).gu 2 (.int .i64 0)).gu 3 (.int .i64 (s.size:Int))).gu 4 (.slice O F P);unfold fw;simpa using this
    clear GI hkW MM Vs hbW hBW hds zO mF jg eP wG oV MN r0 r1 r2 r3 r4 g0 g1 g2 g3 g4 hS10 hS9 hS0 z;generalize fw R H.heap.size (.int .i64 2) (.string ⟨#[]⟩) (.int .i64 0) (.int .i64 (s.size:Int)) (.slice O F P)=WZ at jL Z7⊢
    obtain⟨⟨r0,r1,r2,r3,r4⟩,-⟩:=Z7.five;rw[<- hn10'];go_wp2_with fail
    refine bodyPost_ret (v:=.tuple #[.agg #[.int .i64 2,.string ⟨#[]⟩,.int .i64 0,.int .i64 (s.size:Int),.slice O F P],.slice lJ n10 c10,.int .i64 0]) (by simp[results,Tryz.results37,go_sem,r0,r1,r2,r3,r4]) rfl ?_;exact jL.out
   ·have hki:((k:Int) !=5)=true:=by simp;omega
    have yA:Hid (bM E.l X.st≠5):=kH (by rw[HK.out];exact K);have hX2:=rZ.out;rw[if_neg yA.out]at hX2;have HX8:=kH hX2;clear hX2 rZ K;go_wp2_with fail
    refine(Cy E I v8 _ h8 gQ.out [114,101,99,111,114,100] u.out).mono ?_;rintro e w9 ⟨rfl,v9,gX,h9,fZ⟩;have kE:=kH gX;have eU:=fZ.blk h8 eF;have P9:=P8.trans fZ;have Ib:=kH (nQ.out.keeps (fZ.dX h8));clear gX fZ;cases b1
    case true=>
     obtain⟨x10,q10,hx,L⟩:∃x V,pU E.bs E.l gk X.st=some (x,V)/\mQ E.bs E.l gk V (pX++[x])=some (U,q):=by
      have:=HX8.out;rw[if_pos u.out]at this;split at this
      ·cases this
      ·rename_i x p h;exact⟨x,p,h,this⟩
     have T:=QZ I.ends hx (by rw[I.len];exact KQ) yA.out;have bG:=kH L;have qW:=kH T;have J:=WM E I v9 w9 h9 gk (x10,q10) (by rw[kE.out];exact hx) (by rw[kE.out];exact yA.out);have HC:=kH J;clear hx L T J;go_wp2_with fail
     refine HC.out.mono ?_;rintro e R ⟨k10,t10,BV,Bd,lJ,n10,c10,rfl,kK,v10,gy,M,eT⟩;have jc:=kH gy;have dN:=eT.blk h9 eU;have jV:=P9.trans eT;clear gy;obtain⟨vals11,hO11,hTs11,hn11⟩:=Ib.out.keeps (eT.dX h9);have hTn11:aC R (fun g=>w.heap.size<=g/\some g≠(Value.slice O F P).ownBlock) _ _:=aC.weak (fun g _ hg=>⟨aac P9.since.size hg,fun y=>by obtain⟨_,hO4,_,_⟩:=Ib.out;have:=(hO4.lt g y.symm).2;omega⟩) _ _ kK;have hrz11:=jV.since.size;have j:=kH hO11;have HTs11:=kH hTs11;have HTn11:=kH hTn11;have Hn11:=kH hn11;clear hO11 hTs11 hTn11 hn11 kK;go_wp2_with (at_builtin;go_must (refine di _ rfl (.tmp 48) (.tmp 51) _ rfl (w.heap.size) 24 i0 _ 5 64 Tryz.underlying22 hi0 hz0 hz1 hz2 rfl (.slice O F P) F (List.flatten vals11) rfl (j.out.alloc _) ⟨R.heap.size,0,none⟩ 1 1 [.int .i64 k10,.string t10,.int .i64 BV,.int .i64 Bd,.slice lJ n10 c10] rfl rfl (ji _ _ _ _ _ _ _ (by go_simp) (by go_simp) (by go_simp) (by go_simp) (by go_simp)) (by simp[Value.oneCell']) (by simp only[maxLen];omega) (by omega) (by simp;omega) ?_);intro vn jB D C S;obtain⟨CV,c11,nC,-,-⟩:=D.shape;subst nC;have HOWN11:=kH D;have Wd:=kH C;have HAT11:=kH S;clear D C S)
     have Ie:=kH (bY.pushed HTs11.out Hn11.out HTn11.out HOWN11.out Wd.out HAT11.out);obtain⟨b,rY,Vl⟩:=lG M jV j.out (aab _) Wd.out;have jh:=Vl _ _ dN (fun y=>by have:=(j.out.lt _ y).1;have:=JK.out;omega);clear Vl;go_roundg gk
     case measure=>omega
     case rel=>exact⟨CV,F+1,c11,v10,pX++[x10],rfl,Ie.out,by rw[jc.out];exact bG.out,by rw[jc.out];have:=qW.out.2;have:=vR.out;show F+1<=q10.k;omega,b,rY,jh⟩
    go_wp2_with fail
    refine(Cy E I v9 _ h9 kE.out [112,114,111,99] HB2.out).mono ?_;rintro e R ⟨rfl,v10,gy,M,eT⟩;have jc:=kH gy;have dN:=eT.blk h9 eU;have jV:=P9.trans eT;have sj:=kH (Ib.out.keeps (eT.dX h9));clear gy eT;cases b2
    case true=>
     obtain⟨Fu,Jb,hx,L⟩:∃x V,uT E.bs E.l gk X.st=some (x,V)/\mQ E.bs E.l gk V (pX++[x])=some (U,q):=by
      have:=HX8.out;rw[if_neg (by rw[u.out];simp),if_pos HB2.out]at this;split at this
      ·cases this
      ·rename_i x p h;exact⟨x,p,h,this⟩
     have T:=Xn I.ends I.empty hx (by rw[I.len];exact KQ) yA.out;have bG:=kH L;have qW:=kH T;have J:=PY E I gk (answ E I gk) v10 R (Fu,Jb) M (by rw[jc.out];exact yA.out) (by rw[jc.out];exact hx);have HC:=kH J;clear hx L T J;go_wp2_with fail
     refine HC.out.mono ?_;rintro e jB ⟨k11,t11,Nf,LA,CV,n11,c11,rfl,oC,v11,lX,b,oq⟩;have nK:=kH lX;have jh:=oq.blk M dN;have rY:=jV.trans oq;clear lX;obtain⟨vals12,S9,hTs12,hn12⟩:=sj.out.keeps (oq.dX M);have hTn12:aC jB (fun g=>w.heap.size<=g/\some g≠(Value.slice O F P).ownBlock) _ _:=aC.weak (fun g _ hg=>⟨aac jV.since.size hg,fun y=>by obtain⟨_,hO4,_,_⟩:=sj.out;have:=(hO4.lt g y.symm).2;omega⟩) _ _ oC;have hrz12:=rY.since.size;have Ls:=kH S9;have HTs12:=kH hTs12;have HTn12:=kH hTn12;have Hn12:=kH hn12;clear S9 hTs12 hTn12 hn12 oC;go_wp2_with (at_builtin;go_must (refine di _ rfl (.tmp 56) (.tmp 59) _ rfl (w.heap.size) 24 i0 _ 5 64 Tryz.underlying22 hi0 hz0 hz1 hz2 rfl (.slice O F P) F (List.flatten vals12) rfl (Ls.out.alloc _) ⟨jB.heap.size,0,none⟩ 1 1 [.int .i64 k11,.string t11,.int .i64 Nf,.int .i64 LA,.slice CV n11 c11] rfl rfl (ji _ _ _ _ _ _ _ (by go_simp) (by go_simp) (by go_simp) (by go_simp) (by go_simp)) (by simp[Value.oneCell']) (by simp only[maxLen];omega) (by omega) (by simp;omega) ?_);intro vn nA D C S;obtain⟨A12,c12,nC,-,-⟩:=D.shape;subst nC;have HOWN12:=kH D;have VZ:=kH C;have HAT12:=kH S;clear D C S)
     have pK:=kH (bY.pushed HTs12.out Hn12.out HTn12.out HOWN12.out VZ.out HAT12.out);obtain⟨h12,nH,Vk⟩:=lG b rY Ls.out (aab _) VZ.out;have jb:=Vk _ _ jh (fun y=>by have:=(Ls.out.lt _ y).1;have:=JK.out;omega);clear Vk;go_roundg gk
     case measure=>omega
     case rel=>exact⟨A12,F+1,c12,v11,pX++[Fu],rfl,pK.out,by rw[nK.out];exact bG.out,by rw[nK.out];have:=qW.out.2;have:=vR.out;show F+1<=Jb.k;omega,h12,nH,jb⟩
    obtain⟨V,hx,L⟩:∃V,nO E.bs E.l gk (iI E.l X.st 7 [])=some V/\mQ E.bs E.l gk V (pX++[aI E.l V X.st.k 1 [] []])=some (U,q):=by
     have:=HX8.out;rw[if_neg (by rw[u.out];simp),if_neg (by rw[HB2.out];simp)]at this;split at this
     ·cases this
     ·rename_i p h;exact⟨p,h,this⟩
    have T:=Rs I.ends hx (by rw[xq,I.len];exact KQ)
    have hlt:X.st.k<V.k:=by
     have:=T.2 (by rw[OJ,IB,IB,u.out,HB2.out];simp;exact yA.out);rw[xq]at this;exact this
    have HX:=kH hx;have bG:=kH L;have Ia:=kH hlt;have hk2:R.cell? ⟨E.gp,2,none⟩=some (.int .i64 (v10.st.k:Int)):=M.blk.cell 2;rw[jc.out]at hk2;have hgl10:=M.blk.lt;clear hx L T hlt HX8;go_wp2_with fail
    refine(Oz E I v10 _ M jc.out 7 []).mono ?_;rintro e jB ⟨⟨u11,rfl⟩,v11,lX,b,oq⟩;have nK:=kH lX;have jh:=oq.blk M dN;have rY:=jV.trans oq;have Ie:=kH (sj.out.keeps (oq.dX M));clear lX oq hk2 hgl10;obtain⟨wo,rfl⟩:∃wo:World,wo=wr:=⟨_,rfl⟩
    obtain⟨go,rfl⟩:∃go:Nat,go=gk:=⟨_,rfl⟩
    go_wp2_with fail
    go_loopg [] go (fun g2 wr=> ∃vx,nO E.bs E.l g2 vx.st=some V/\PW wr E vx/\PM E w v wr vx/\aj wr H.heap.size 24 #[.int .i64 0,.string ⟨#[]⟩,.int .i64 0,.int .i64 0,.slice none 0 0]/\bY wr w.heap.size (.slice O F P) F pX)
    case atStart=>exact⟨v11,by rw[nK.out];exact HX.out,b,rY,jh,Ie.out⟩
    case round=>
     obtain⟨G,XL,h12,nH,jb,hK12⟩:=hrel
     cases gk with
     | zero=>simp[nO]at XL
     | succ gk=>
      rw[nO]at XL;have HX12:=kH XL;have pK:=kH hK12;obtain⟨k',hk'⟩:∃x,bM E.l G.st=x:=⟨_,rfl⟩
      have HKK:=kH hk';obtain⟨b3,hb3⟩:∃x,bF E.bs E.l G.st [114,101,99,111,114,100]=x:=⟨_,rfl⟩
      have HB3:=kH hb3;obtain⟨b4,hb4⟩:∃x,bF E.bs E.l G.st [112,114,111,99]=x:=⟨_,rfl⟩
      have oN:=kH hb4;have hkd:=fun w' (h:PW w' E G)=>qb E I G w' h
      have his:=fun x w' (h:PW w' E G)=>zl E I G x w' h
      rw[hk']at hkd;have qX:=kH hkd;have HIS:=kH his;have Wl:=kH h12;obtain⟨bg,hbg⟩:∃x,(decide (k'≠5)&& !b3&& !b4)=x:=⟨_,rfl⟩
      have hx13:=HX12.out;rw[hk',hb3,hb4,hbg]at hx13;have HX13:=kH hx13;have HBG:=kH hbg;clear XL hK12 hk' hb3 hb4 hkd his hbg hx13 HX12;go_upto_region 8 with fail
      go_cut [36] (fun s36 wx=>s36= .bool bg/\Below wr.heap.size wr wx)
      case first=>
       by_cases K:k'=5
       ·have e:bg=false:=by rw[<- HBG.out];simp[K]
        subst e;have hki:((k':Int) !=5)=false:=by simp;omega
        clear K;go_wp2_with fail
        refine(qX.out _ Wl.out).mono ?_;rintro e vg ⟨rfl,ik⟩;go_wp2_with fail
        go_meet
        exact⟨rfl,ik⟩
       ·have e:bg=(!b3&& !b4):=by rw[<- HBG.out];simp[K]
        subst e;have hki:((k':Int) !=5)=true:=by simp;omega
        clear K;go_wp2_with fail
        refine(qX.out _ Wl.out).mono ?_;rintro e vg ⟨rfl,ik⟩;have qj:=Wl.out.below ik;go_wp2_with fail
        refine(HIS.out [114,101,99,111,114,100] _ qj).mono ?_;rintro e yu ⟨rfl,cO⟩;rw[HB3.out];have zA:=qj.below cO;have Yg:=ik.trans (cO.mono ik.size);clear cO ik;cases b3
        ·go_wp2_with fail
         refine(HIS.out [112,114,111,99] _ zA).mono ?_;rintro e IW ⟨rfl,qh⟩;rw[oN.out];go_wp2_with fail
         go_meet
         exact⟨by simp,Yg.trans (qh.mono Yg.size)⟩
        ·go_wp2_with fail
         go_meet
         exact⟨by simp,Yg⟩
      case rest=>
       obtain⟨rfl,N⟩:=hcut;have Y:=Wl.out.below N;have EY:=jb.below N jb.lt;have P16:=nH.trans (PM.of_below N);have r:=kH (pK.out.keeps (bZ.of_below N));cases bg
       ·have hq1:G.st=V:=by simpa using HX13.out
        have iF:=kH hq1;clear N hq1;go_wp2_with fail
        refine(leaf_to E I G _ Y iF.out X.st.k 1 []).mono ?_;rintro e YW ⟨k17,t17,a17,z17,Ug,n17,c17,rfl,hT17,v17,GG,FJ,GJ⟩;have Lm:=kH GG;have GX:=GJ.blk Y EY;have Ni:=P16.trans GJ;clear GG;obtain⟨vals18,hO18,hTs18,hn18⟩:=r.out.keeps (GJ.dX Y);have hTn18:aC YW (fun g=>w.heap.size<=g/\some g≠(Value.slice O F P).ownBlock) _ _:=aC.weak (fun g _ hg=>⟨aac P16.since.size hg,fun y=>by obtain⟨_,hO4,_,_⟩:=r.out;have:=(hO4.lt g y.symm).2;omega⟩) _ _ hT17;have hrz18:=Ni.since.size;have d:=kH hO18;have HTs18:=kH hTs18;have HTn18:=kH hTn18;have Hn18:=kH hn18;clear hO18 hTs18 hTn18 hn18 hT17;go_wp2_with (at_builtin;go_must (refine di _ rfl (.tmp 39) (.tmp 43) _ rfl (w.heap.size) 24 i0 _ 5 64 Tryz.underlying22 hi0 hz0 hz1 hz2 rfl (.slice O F P) F (List.flatten vals18) rfl (d.out.alloc _) ⟨YW.heap.size,0,none⟩ 1 1 [.int .i64 k17,.string t17,.int .i64 a17,.int .i64 z17,.slice Ug n17 c17] rfl rfl (ji _ _ _ _ _ _ _ (by go_simp) (by go_simp) (by go_simp) (by go_simp) (by go_simp)) (by simp[Value.oneCell']) (by simp only[maxLen];omega) (by omega) (by simp;omega) ?_);intro vn w18 D C S;obtain⟨A18,c18,nC,-,-⟩:=D.shape;subst nC;have HOWN18:=kH D;have VY:=kH C;have HAT18:=kH S;clear D C S)
        have TU:=kH (bY.pushed HTs18.out Hn18.out HTn18.out HOWN18.out VY.out HAT18.out);obtain⟨h18,P18,Vg⟩:=lG FJ Ni d.out (aab _) VY.out;have GV:=Vg _ _ GX (fun y=>by have:=(d.out.lt _ y).1;have:=JK.out;omega);clear Vg;go_roundg go
        case measure=>omega
        case rel=>exact⟨A18,F+1,c18,v17,pX++[aI E.l V X.st.k 1 [] []],rfl,TU.out,by rw[Lm.out];exact bG.out,by rw[Lm.out];have:=Ia.out;have:=vR.out;show F+1<=V.k;omega,h18,P18,GV⟩
       ·have K:bM E.l G.st≠5:=by
         rw[HKK.out];have:=HBG.out;simp only[aad,decide_eq_true_eq]at this;exact this.1.1
        have L:nO E.bs E.l gk (aB E.l G.st)=some V:=by simpa using HX13.out
        have vB:=kH L;have HK5':=kH K;clear N L K;go_wp2_with fail
        have nT:Hid (G.st=G.st):=kH rfl;refine(wP E I G _ Y nT.out HK5'.out).mono ?_;rintro e YW ⟨rfl,v17,GG,FJ,GJ⟩;have Lm:=kH GG;have GX:=GJ.blk Y EY;have Ni:=P16.trans GJ;have N9:=kH (r.out.keeps (GJ.dX Y));clear GG GJ;go_wp2_with fail
        go_roundg gk
        case measure=>omega
        case rel=>exact⟨v17,by rw[Lm.out];exact vB.out,FJ,Ni,GX,N9.out⟩
theorem end_any(E:PE)(Q:E.Ok)(v:PV)(w:World)(U:PW w E v)(f:bM E.l v.st=5):Calls Tryz.prog 75 #[.pointer (some ⟨E.gp,0,none⟩)] w fun e w'=> ∃P C dc,e= .returned (.slice P C dc)/\C=(ig (iJ E.bs) v.st.ds).length/\aK w' w.heap.size 78 5 (.slice P C dc) C ((ig (iJ E.bs) v.st.ds).flatMap bO)/\Below w.heap.size w w':=by
 have H5:=kH f;clear f;go_in
 go_wp2_with fail
 refine(qb E Q v _ U).mono ?_;rintro e B ⟨rfl,W⟩;rw[H5.out];have N:=U.below W;go_wp2_with fail
 have A:B.cell? ⟨E.gp,4,none⟩=some v.lv:=N.blk.cell 4;have D:B.cell? ⟨E.gp,0,none⟩=some (.string E.s):=N.blk.cell 0;obtain⟨X,Z,J,Sb,-⟩:=N.own.shape;rw[J]at A;have S:=N.good.len (m:=4096) (by have:=Q.get v.st.k;have:=Q.size;omega);have M:=N.blk.lt;obtain⟨nd,I⟩:∃x,v.st.ds.length=x:=⟨_,rfl⟩
 rw[I]at A Sb S;have Lp:=kH (N.own.rowAt (cells:=bO) (l:=v.st.ds) J rfl (by intro c _;rfl) rfl);have q:=kH I
 have T:(iJ E.bs).length<=4097:=by
  have:=Ji E.bs;have h1:E.bs.length=E.s.size:=by unfold PE.bs;exact bQ _
  have:=Q.size;omega
 have Nr:=kH T;clear I T J;refine pV (fun w'=>w'.cell? ⟨E.gp,0,none⟩=some (.string E.s)/\w'.cell? ⟨E.gp,4,none⟩=some (.slice X nd Z)) [] [(0,true),(1,true),(2,true),(3,true),(5,true),(6,true),(7,true),(8,true),(4,false),(9,false),(10,false)] (by kernel_rfl) (by kernel_rfl) rfl (by kernel_rfl) ?_;have R:B.drew.cell? ⟨E.gp,0,none⟩=some (.string E.s)/\B.drew.cell? ⟨E.gp,4,none⟩=some (.slice X nd Z):=⟨D,A⟩
 refine iV (by simp only[aak,aai];rfl) (by rfl) R (by intro w' H;obtain⟨u,t⟩:=H;go_simp;rfl) ?_;iterate 7(simp only[Act.put,sA,sZ,sC];refine iV (by simp only[aak,aaj,aai];rfl) (by rfl) R (by intro w' H;obtain⟨u,t⟩:=H;go_simp;rfl) ?_)
 simp only[Act.put,sA,sZ,sC];refine sQ (by simp only[aak,aaj,aai];rfl) (by rfl) ?_;go_simp
 refine(Jj E.s _ Q.size).mono ?_;rintro e w9 ⟨A9,n9,c9,rfl,Y,j,eP⟩;have L:Below B.heap.size B w9:=((Below.refl B.heap.size B).drew).trans eP;refine⟨⟨(L.cell (p:=⟨E.gp,0,none⟩) M).trans D,(L.cell (p:=⟨E.gp,4,none⟩) M).trans A⟩,?_⟩;have z:=j.rowAt (cells:=bO) (l:=iJ E.bs) rfl rfl (by intro c _;rfl) Y.symm;obtain⟨_,_,gX,d,-⟩:=j.shape;cases gX
 have F:(iJ E.bs).length=n9:=Y.symm;have y:=(Lp.out.below L (aab _)).mono L.size;have g:=Mk (iJ E.bs) v.st.ds A9 X c9 Z w9 z y (by have:=Nr.out;omega) (by have:=q.out;omega) (by omega) (by have:=q.out;omega);rw[q.out,F]at g;clear Y F;refine sQ (by simp only[aak,aaj,aai];rfl) (by rfl) ?_;go_simp
 refine g.mono ?_;rintro e V ⟨r,K,G,rfl,n,oV,b⟩;have O:Below B.heap.size B V:=L.trans (b.mono L.size);refine⟨⟨(O.cell (p:=⟨E.gp,0,none⟩) M).trans D,(O.cell (p:=⟨E.gp,4,none⟩) M).trans A⟩,?_⟩;refine pW (w':=V) (by simp only[aak,aaj,aai];rfl) (by rfl) (by go_simp;rfl) (fun _=>⟨(O.cell (p:=⟨E.gp,0,none⟩) M).trans D,(O.cell (p:=⟨E.gp,4,none⟩) M).trans A⟩) ?_;simp only[Act.put,sA,sZ,sC];refine wu ?_;have jL:Hid (∃P C dc,Ending.returned (.slice r K G)= .returned (.slice P C dc)/\C=(ig (iJ E.bs) v.st.ds).length/\aK V w.heap.size 78 5 (.slice P C dc) C ((ig (iJ E.bs) v.st.ds).flatMap bO)/\Below w.heap.size w V):=kH ⟨r,K,G,rfl,n,oV.mono (by have:=L.size;have:=W.size;omega),W.trans (O.mono W.size)⟩;rw[<- n];clear n oV b O;go_wp2_with fail
 refine bodyPost_ret (v:=.slice r K G) (by simp[results,Tryz.results75,go_sem]) rfl ?_;exact jL.out
theorem PO(s:ByteArray)(A:World)(hs:s.size<=4096)(f:Nat)(t:ae)(q:PS)(hf:aP s.data.toList (pY s.data.toList) f .stmt ⟨0,0,[]⟩=some ([t],q))(h5:bM (pY s.data.toList) q=5):
 Calls Tryz.prog 38 #[.string s] A (Bc A t (ig (iJ s.data.toList) q.ds)):=by
 have hgt:¬(4096:Int)<s.size:=by omega
 have HF:=kH hf;have H5:=kH h5;clear hf h5;go_in
 go_wp2_with fail
 generalize R:A.alloc (.cells #[.int .i64 0,.string ⟨#[]⟩,.int .i64 0,.int .i64 0,.slice none 0 0] 24)=W1
 have z:Below A.heap.size A W1:=by rw[<- R];exact ag _ _
 have V:aj W1 A.heap.size 24 #[.int .i64 0,.string ⟨#[]⟩,.int .i64 0,.int .i64 0,.slice none 0 0]:=by rw[<- R];exact aj.new A _ _
 refine(Ou s W1 hs).mono ?_;rintro e w ⟨E,v,rfl,hE,y,hl,hlo,hst,r,x⟩;have d:=V.below x V.lt;have b:A.heap.size+1<=w.heap.size:=d.lt;have mJ:=kH (z.trans (x.mono z.size));have ZG:W1.heap.size=A.heap.size+1:=by rw[<- R];simp
 have HZW:=kH ZG;have yz:=kH hlo;have Wj:=kH y;have HL:=kH hl;have JK:=kH b;have N:=(answ E hE f).stmt v w t q r (by rw[y,hl,hst];exact HF.out);have HC:=kH N;clear R z V x y hl hlo hst b ZG N;go_wp2_with fail
 refine HC.out.mono ?_;rintro e C ⟨H,J,F,K,D,I,G,rfl,mV,v2,T,h2,u⟩;try dsimp only at T mV
 have U:=u.blk r d;have fU:=kH T;go_wp2_with fail
 generalize Z:C.alloc (.cells #[.int .i64 H,.string J,.int .i64 F,.int .i64 K,.slice D I G] 24)=w3
 have S:Below C.heap.size C w3:=by rw[<- Z];exact ag _ _
 have SF:aj w3 C.heap.size 24 #[.int .i64 H,.string J,.int .i64 F,.int .i64 K,.slice D I G]:=by rw[<- Z];exact aj.new C _ _
 have M:=SF.lt;have h3:=h2.below S;have cZ:=U.below S U.lt;have jN:=aC.keeps (bZ.of_below S) _ _ mV;obtain⟨⟨q0,q1,q2,q3,q4⟩,-⟩:=SF.five;have hsz2:=u.since.size;have hlow:=hE.low;have EU:=(mJ.out.trans (u.below r (B:=A.heap.size) (by have:=yz.out;have:=HZW.out;omega) hlow)).trans (S.mono (by have:=JK.out;omega));have YK:=kH EU;clear Z EU;have O:=end_any E hE v2 w3.drew (h3.below (Below.refl _ _).drew) (by rw[T,HL.out];exact H5.out);rw[T,Wj.out]at O;have aO:=kH O;clear O;refine pV (fun w'=>w'.cell? ⟨C.heap.size,0,none⟩=some (.int .i64 H)/\w'.cell? ⟨C.heap.size,1,none⟩=some (.string J)/\w'.cell? ⟨C.heap.size,2,none⟩=some (.int .i64 F)/\w'.cell? ⟨C.heap.size,3,none⟩=some (.int .i64 K)/\w'.cell? ⟨C.heap.size,4,none⟩=some (.slice D I G)) [] [(0,true),(1,true),(2,false),(3,false),(4,false),(5,false)] (by kernel_rfl) (by kernel_rfl) rfl (by kernel_rfl) ?_;have W:w3.drew.cell? ⟨C.heap.size,0,none⟩=some (.int .i64 H)/\w3.drew.cell? ⟨C.heap.size,1,none⟩=some (.string J)/\w3.drew.cell? ⟨C.heap.size,2,none⟩=some (.int .i64 F)/\w3.drew.cell? ⟨C.heap.size,3,none⟩=some (.int .i64 K)/\w3.drew.cell? ⟨C.heap.size,4,none⟩=some (.slice D I G):=⟨q0,q1,q2,q3,q4⟩
 refine iV (by simp only[aak,aai];rfl) (by rfl) W (by intro w' Y;obtain⟨hs1,hs2,hs3,hs4,hs5⟩:=Y;go_simp;rfl) ?_;simp only[Act.put,sA,sZ,sC];refine iV (by simp only[aak,aaj,aai];rfl) (by rfl) W (by intro w' Y;obtain⟨hs1,hs2,hs3,hs4,hs5⟩:=Y;go_simp;rfl) ?_;simp only[Act.put,sA,sZ,sC];refine sQ (by simp only[aak,aaj,aai];rfl) (by rfl) ?_;go_simp
 refine aO.out.mono ?_;rintro e L ⟨lJ,n10,k,rfl,qc,oV,jg⟩;have P:Below w3.heap.size w3 L:=((Below.refl w3.heap.size w3).drew).trans jg;refine⟨⟨(P.cell (p:=⟨C.heap.size,0,none⟩) M).trans q0,(P.cell (p:=⟨C.heap.size,1,none⟩) M).trans q1,(P.cell (p:=⟨C.heap.size,2,none⟩) M).trans q2,(P.cell (p:=⟨C.heap.size,3,none⟩) M).trans q3,(P.cell (p:=⟨C.heap.size,4,none⟩) M).trans q4⟩,?_⟩;have dN:=cZ.below P cZ.lt;obtain⟨⟨r0,r1,r2,r3,r4⟩,g0,g1,g2,g3,g4⟩:=dN.five;have hlr:=dN.lt;have hlr3:=cZ.lt;have hlr2:=U.lt;have hl10:C.heap.size<L.heap.size:=Nat.lt_of_lt_of_le M P.size
 have m:aF (fun g=>g=A.heap.size) L (fw L A.heap.size (.int .i64 H) (.string J) (.int .i64 F) (.int .i64 K) (.slice D I G)):=by
  unfold fw;exact(((((aF.refl (fun g=>g=A.heap.size) L).setCell (.inl rfl) _).setCell (.inl rfl) _).setCell (.inl rfl) _).setCell (.inl rfl) _).setCell (.inl rfl) _
 have X:(fw L A.heap.size (.int .i64 H) (.string J) (.int .i64 F) (.int .i64 K) (.slice D I G)).cell? ⟨C.heap.size,0,none⟩=some (.int .i64 H)/\(fw L A.heap.size (.int .i64 H) (.string J) (.int .i64 F) (.int .i64 K) (.slice D I G)).cell? ⟨C.heap.size,1,none⟩=some (.string J)/\(fw L A.heap.size (.int .i64 H) (.string J) (.int .i64 F) (.int .i64 K) (.slice D I G)).cell? ⟨C.heap.size,2,none⟩=some (.int .i64 F)/\(fw L A.heap.size (.int .i64 H) (.string J) (.int .i64 F) (.int .i64 K) (.slice D I G)).cell? ⟨C.heap.size,3,none⟩=some (.int .i64 K)/\(fw L A.heap.size (.int .i64 H) (.string J) (.int .i64 F) (.int .i64 K) (.slice D I G)).cell? ⟨C.heap.size,4,none⟩=some (.slice D I G):=by
  have c:=(SF.below P M).since m (by omega);exact c.five.1
 have n:=aC.keeps (bZ.of_below P) _ _ jN;replace n:=aC.keeps (w':=(fw L A.heap.size (.int .i64 H) (.string J) (.int .i64 F) (.int .i64 K) (.slice D I G))) (fun g cs hg hc=>m.block g (aae.1 hc).1 (by have:=JK.out;omega)) _ _ n
 replace n:=aC.weak (Q:=fun g=>A.heap.size<=g) (fun g _ hg=>by have:=JK.out;omega) _ _ n
 have Vs:=(oV.since m (fun g hg e1=>by have h1:=(oV.lt g hg).1;have h3:w3.drew.heap.size=w3.heap.size:=rfl;omega)).mono (base':=A.heap.size) (by have h3:w3.drew.heap.size=w3.heap.size:=rfl;omega);have j:=(YK.out.trans (P.mono (by omega))).trans (m.toBelow (B:=A.heap.size) (by omega) (fun g hg=>by omega))
 have Z7:aj (fw L A.heap.size (.int .i64 H) (.string J) (.int .i64 F) (.int .i64 K) (.slice D I G)) A.heap.size 24 #[.int .i64 H,.string J,.int .i64 F,.int .i64 K,.slice D I G]:=by
  have:=((((dN.gu 0 (.int .i64 H)).gu 1 (.string J)).gu 2 (.int .i64 F)).gu 3 (.int .i64 K)).gu 4 (.slice D I G);unfold fw;simpa using this
 have jL:Hid (Bc A t (ig (iJ s.data.toList) q.ds) (.returned (.tuple #[.agg #[.int .i64 H,.string J,.int .i64 F,.int .i64 K,.slice D I G],.slice lJ n10 k,.int .i64 0])) (fw L A.heap.size (.int .i64 H) (.string J) (.int .i64 F) (.int .i64 K) (.slice D I G))):=kH ⟨_,_,_,_,_,_,_,_,_,_,rfl,n,qc,Vs,j⟩;refine Od (w':=(fw L A.heap.size (.int .i64 H) (.string J) (.int .i64 F) (.int .i64 K) (.slice D I G))) (by simp only[aak,aaj,aai];rfl) (by rfl) (by unfold fw;go_simp) (fun _=>X) ?_;simp only[Act.put];iterate 2(refine pW (w':=(fw L A.heap.size (.int .i64 H) (.string J) (.int .i64 F) (.int .i64 K) (.slice D I G))) (by simp only[aak,aaj,aai];rfl) (by rfl) (by go_simp;rfl) (fun _=>X) ?_;simp only[Act.put,sA,sZ,sC])
 refine wu ?_;rw[<- qc];clear qc oV jg P m X n Vs j r0 r1 r2 r3 r4 g0 g1 g2 g3 g4 W;generalize fw L A.heap.size (.int .i64 H) (.string J) (.int .i64 F) (.int .i64 K) (.slice D I G)=WZ at jL Z7⊢
 obtain⟨⟨r0,r1,r2,r3,r4⟩,-⟩:=Z7.five;go_wp2_with fail
 refine bodyPost_ret (v:=.tuple #[.agg #[.int .i64 H,.string J,.int .i64 F,.int .i64 K,.slice D I G],.slice lJ n10 k,.int .i64 0]) (by simp[results,Tryz.results38,go_sem,r0,r1,r2,r3,r4]) rfl ?_;exact jL.out
end Go.Proofs.YtoepemlnlpamlaaGreat
