/- The law NamesResolves holds where what it reads is of bulk at most 1048576: it returns true, and its argument reads as before. Part 35: Rw2 Rw3 Rw4. -/
import Derived.Test.YtoepemlnlpamlaaGreatReso27
import Derived.Test.YtoepemlnlpamlaaGreatReso34
set_option maxRecDepth 100000
set_option maxHeartbeats 4000000
namespace Go.Proofs.YtoepemlnlpamlaaGreat
open Go.RowKit
theorem dL.yo{E:RE}{G:List Dc}{mk:Int}{q:RW}{V:RQ}{w:World}(h:dL E G mk q V w)(i:Nat)(hi:i<q.uses.length):
 ∃b off,E.uA=some ⟨b,off,none⟩/\b<w.heap.size/\(∃u,w.cell? ⟨b,off+i,none⟩=some (.int .i64 u))/\w.frozen? ⟨b,off+i,none⟩=false /\
  ∀y:Int,dL E G mk { q with uses:=q.uses.set i y } V (w.setCell ⟨b,off+i,none⟩ (.int .i64 y))/\KW E w (w.setCell ⟨b,off+i,none⟩ (.int .i64 y)):=by
 obtain⟨b,off,cap,hv,-,-,hlo,hlt,hcs⟩:=h.us.form (by omega);have hA:E.uA=some ⟨b,off,none⟩:=by injection hv
 refine⟨b,off,hA,hlt,⟨_,hcs i (.int .i64 q.uses[i]) (by simp[gY,hi])⟩,?_,fun y=>⟨h.Jb hA i hi y,kw_use hA w i _⟩⟩;obtain⟨cur,hc⟩:=h.us.typed (g:=b) (by rw[hA];rfl);simp[World.frozen?,hc]
theorem Bz(E:RE)(G:List Dc)(mk:Int)(q:RW)(V:RQ)(w:World)(h:dL E G mk q V w)(hN:q.list.length<=1000000)(hbase:E.base<=w.heap.size)(code:Int)(t:ae)(A:Option Addr)(c:Nat):
 Calls Tryz.prog 158 #[.pointer (some ⟨E.rp,0,none⟩),bD t A c,.int .i64 code] w fun e w'=>e= .returned (.tuple #[])/\∃V',dL E G mk (sG q code t) V' w'/\KW E w w':=by
 obtain⟨i0,hi0,hz0,hz1,hz2⟩:=info_parts Dj;have HP:Hid (sG q code t= { q with list:=q.list++[⟨code,t.at_,t.end_,t.text⟩] }):=kH rfl;unfold bD;obtain⟨q',hq⟩:∃z,sG q code t=z:=⟨_,rfl⟩
 rw[hq]at HP⊢;obtain⟨k,hk0⟩:∃z,t.kind=z:=⟨_,rfl⟩
 obtain⟨x,hx0⟩:∃z,t.text=z:=⟨_,rfl⟩
 obtain⟨a,ha0⟩:∃z,t.at_=z:=⟨_,rfl⟩
 obtain⟨z,hz0'⟩:∃z,t.end_=z:=⟨_,rfl⟩
 obtain⟨m,hm0⟩:∃z,t.kids.length=z:=⟨_,rfl⟩
 rw[hk0,hx0,ha0,hz0',hm0];rw[hx0,ha0,hz0']at HP;obtain⟨np,qM⟩:∃z,q.list.length=z:=⟨_,rfl⟩
 rw[qM]at hN;have H:=kH h;have mG:=kH qM;clear hq hk0 hx0 ha0 hz0' hm0 h qM;go_enter Tryz.func158,Tryz.ntmps158
 go_wp2_with fail
 generalize hW1:w.alloc (.cells #[.int .i64 k,.string x,.int .i64 a,.int .i64 z,.slice A m c] 24)=W1
 have hb1:Below w.heap.size w W1:=by rw[<- hW1];exact ag _ _
 have hT1:ai W1 w.heap.size 24 #[.int .i64 k,.string x,.int .i64 a,.int .i64 z,.slice A m c]:=by rw[<- hW1];exact ai.new w _ _
 have h1:=H.out.below hb1;have c2:W1.cell? ⟨E.rp,2,none⟩=some (.slice V.lA np V.lc):=by have:=h1.blk.cell 2;rw[mG.out]at this;exact this
 have hlr:=h1.blk.lt;have hx1:=hT1.cell 1;have hx2:=hT1.cell 2;have hx3:=hT1.cell 3;have hlt:=hT1.lt;have ho1:=h1.ls;rw[mG.out]at ho1;have zw:=kH ho1;have H1:=kH h1;have HB1:=kH hb1;have hne:(Value.slice V.lA np V.lc).ownBlock≠some E.rp:=ho1.bZ h1.blk (by decide);have hne2:(Value.slice V.lA np V.lc).ownBlock≠some w.heap.size:=ho1.bZ hT1 (by decide);have fC:=kH hne;have uU:=kH hne2;have hbs:E.base<=W1.heap.size:=abF hbase hb1.size;clear hW1 ho1 h1 hT1 hb1 hne hne2;refine dY (fun w'=>w'.cell? ⟨E.rp,2,none⟩=some (.slice V.lA np V.lc)/\w'.cell? ⟨w.heap.size,1,none⟩=some (.string x)/\w'.cell? ⟨w.heap.size,2,none⟩=some (.int .i64 a)/\w'.cell? ⟨w.heap.size,3,none⟩=some (.int .i64 z)) [17] [true,true,true,true,true,true,true,true,true,true,true,true,true,false,false,false,false,false] (by kernel_rfl) (by kernel_rfl) rfl (by kernel_rfl) ?_;have hS0:W1.drew.cell? ⟨E.rp,2,none⟩=some (.slice V.lA np V.lc)/\W1.drew.cell? ⟨w.heap.size,1,none⟩=some (.string x)/\W1.drew.cell? ⟨w.heap.size,2,none⟩=some (.int .i64 a)/\W1.drew.cell? ⟨w.heap.size,3,none⟩=some (.int .i64 z):=⟨c2,hx1,hx2,hx3⟩
 iterate 13(refine gP rfl hS0 (by intro w' hSw;obtain⟨hs1,hs2,hs3,hs4⟩:=hSw;go_simp;rfl) ?_;simp only[Act.put,sA,sZ,sC])
 refine gH (w':=W1.drew.alloc (.cells #[.int .i64 code,.int .i64 a,.int .i64 z,.string x,.slice none 0 0] 78)) rfl (by go_simp;rfl) ?_ ?_
 ·exact fun _=>⟨by go_simp,by go_simp,by go_simp,by go_simp⟩
 simp only[Act.put,sA,sZ,sC];refine r9 rfl (iY _ (.tmp 10) (.tmp 19) _ rfl E.base 78 i0 _ 5 64 Tryz.underlying31 hi0 hz0 hz1 hz2 rfl (.slice V.lA np V.lc) np (q.list.flatMap bC) rfl (zw.out.drew.alloc _) ⟨W1.heap.size,0,none⟩ 1 1 (bC ⟨code,a,z,x⟩) rfl rfl (jd _ _ _ _ _ _ _ (by go_simp) (by go_simp) (by go_simp) (by go_simp) (by go_simp)) (by simp[bC,Value.oneCell']) (by simp only[maxLen];omega) (by omega) (by simp;omega) ?_);intro v3 w3 hown3 hgrow3 uR;obtain⟨A3,c3,hv3,-,-⟩:=hown3.shape;subst hv3;have hz3:=hgrow3.size;simp at hz3
 have q1:w3.cell? ⟨E.rp,2,none⟩=some (.slice V.lA np V.lc):=by
  rw[hgrow3.cell_far _ (by simp;omega) (fun e1=>fC.out e1.symm)];go_simp
 have q2:w3.cell? ⟨w.heap.size,1,none⟩=some (.string x):=by
  rw[hgrow3.cell_far _ (by simp;omega) (fun e1=>uU.out e1.symm)];go_simp
 have q3:w3.cell? ⟨w.heap.size,2,none⟩=some (.int .i64 a):=by
  rw[hgrow3.cell_far _ (by simp;omega) (fun e1=>uU.out e1.symm)];go_simp
 have q4:w3.cell? ⟨w.heap.size,3,none⟩=some (.int .i64 z):=by
  rw[hgrow3.cell_far _ (by simp;omega) (fun e1=>uU.out e1.symm)];go_simp
 have hB3:=ai.grown (ai.alloc (ai.drew H1.out.blk) (.cells #[.int .i64 code,.int .i64 a,.int .i64 z,.string x,.slice none 0 0] 78)) hgrow3 (fun e1=>fC.out e1.symm);have q5:=hB3.frozen 2
 have HR:Hid (∃V',dL E G mk q' V' (w3.setCell ⟨E.rp,2,none⟩ (.slice A3 (np+1) c3))/\KW E w (w3.setCell ⟨E.rp,2,none⟩ (.slice A3 (np+1) c3))):=kH (by
  have yO:Below W1.heap.size W1 (W1.drew.alloc (.cells #[.int .i64 code,.int .i64 a,.int .i64 z,.string x,.slice none 0 0] 78)):=((Below.refl _ _).drew).alloc (abE _) _;have h2:=H1.out.below yO;have hp:=h2.note_ ⟨code,a,z,x⟩ (A:=A3) (c:=c3) (by rw[mG.out,List.flatMap_append];simpa using hown3) (by rw[mG.out];exact hgrow3);have hk:=TP (E:=E) (w':=w3) h2.ls (.inr rfl) (by rw[mG.out];exact hgrow3) 2 (.slice A3 (np+1) c3);rw[mG.out]at hp;rw[HP.out]
  exact⟨_,hp,(KW.of_below (HB1.out.trans (yO.mono HB1.out.size))).trans hk⟩)
 clear hB3 hown3 hgrow3 uR;refine⟨fun _=>⟨q1,q2,q3,q4⟩,?_⟩;iterate 2(simp only[Act.put,sA,sZ,sC];refine gH (w':=w3) rfl (by go_simp;rfl) (fun _=>⟨q1,q2,q3,q4⟩) ?_)
 simp only[Act.put,sA,sZ,sC];refine gZ (w':=w3.setCell ⟨E.rp,2,none⟩ (.slice A3 (np+1) c3)) rfl (by go_simp) (by simp) ?_;refine iT ?_;simp only[Act.put];go_wp2_with fail
 go_end0
 exact⟨rfl,HR.out⟩
theorem Fv(E:RE)(G:List Dc)(mk:Int)(q:RW)(V:RQ)(w:World)(h:dL E G mk q V w)(hN:q.ds.length<=1000000)(hU:q.num<q.uses.length)(hbase:E.base<=w.heap.size)(kind owner:Int)(t:ae)(A:Option Addr)(c:Nat):
 Calls Tryz.prog 209 #[.pointer (some ⟨E.rp,0,none⟩),bD t A c,.int .i64 kind,.int .i64 owner] w fun e w'=>e= .returned (.int .i64 (q.ds.length:Int))/\∃V',dL E G mk (sN q kind t owner) V' w'/\KW E w w':=by
 obtain⟨i0,hi0,hz0,hz1,hz2⟩:=info_parts Gc;obtain⟨nm,hnm⟩:∃z,q.num=z:=⟨_,rfl⟩
 have HP:Hid (sN q kind t owner= { ({ q with ds:=q.ds++[(⟨kind,t.text,nm,owner⟩:Dc)] }:RW) with uses:=q.uses.set nm (q.ds.length:Int) }):=kH (by subst hnm;rfl);unfold bD;obtain⟨q',hq⟩:∃z,sN q kind t owner=z:=⟨_,rfl⟩
 rw[hq]at HP⊢;obtain⟨k,hk0⟩:∃z,t.kind=z:=⟨_,rfl⟩
 obtain⟨x,hx0⟩:∃z,t.text=z:=⟨_,rfl⟩
 obtain⟨a,ha0⟩:∃z,t.at_=z:=⟨_,rfl⟩
 obtain⟨z,hz0'⟩:∃z,t.end_=z:=⟨_,rfl⟩
 obtain⟨m,hm0⟩:∃z,t.kids.length=z:=⟨_,rfl⟩
 rw[hk0,hx0,ha0,hz0',hm0];rw[hx0]at HP;obtain⟨np,qM⟩:∃z,q.ds.length=z:=⟨_,rfl⟩
 obtain⟨nu,hnu⟩:∃z,q.uses.length=z:=⟨_,rfl⟩
 rw[qM]at hN⊢;rw[hnu,hnm]at hU;have H:=kH h;have mG:=kH qM;have Bj:=kH hnu;have qP:=kH hnm;clear hq hk0 hx0 ha0 hz0' hm0 h qM hnu hnm;go_enter Tryz.func209,Tryz.ntmps209
 go_wp2_with fail
 generalize hW1:w.alloc (.cells #[.int .i64 k,.string x,.int .i64 a,.int .i64 z,.slice A m c] 24)=W1
 have hb1:Below w.heap.size w W1:=by rw[<- hW1];exact ag _ _
 have hT1:ai W1 w.heap.size 24 #[.int .i64 k,.string x,.int .i64 a,.int .i64 z,.slice A m c]:=by rw[<- hW1];exact ai.new w _ _
 have h1:=H.out.below hb1;have c0:W1.cell? ⟨E.rp,0,none⟩=some (.slice V.dA np V.dc):=by have:=h1.blk.cell 0;rw[mG.out]at this;exact this
 have c4:W1.cell? ⟨E.rp,4,none⟩=some (.int .i64 (nm:Int)):=by have:=h1.blk.cell 4;rw[qP.out]at this;exact this
 have hlr:=h1.blk.lt;have hx1:=hT1.cell 1;have hlt:=hT1.lt;have ho1:=h1.ds;rw[mG.out]at ho1;have zw:=kH ho1;have H1:=kH h1;have HB1:=kH hb1;have hne:(Value.slice V.dA np V.dc).ownBlock≠some E.rp:=ho1.bZ h1.blk (by decide);have hne2:(Value.slice V.dA np V.dc).ownBlock≠some w.heap.size:=ho1.bZ hT1 (by decide);have fC:=kH hne;have uU:=kH hne2;have hbs:E.base<=W1.heap.size:=abF hbase hb1.size;clear hW1 ho1 h1 hT1 hb1 hne hne2;refine dY (fun w'=>w'.cell? ⟨E.rp,0,none⟩=some (.slice V.dA np V.dc)/\w'.cell? ⟨w.heap.size,1,none⟩=some (.string x)/\w'.cell? ⟨E.rp,4,none⟩=some (.int .i64 (nm:Int))) [20] [true,true,true,true,true,true,true,true,true,true,true,true,true,true,true,false,false,false,false,false,false] (by kernel_rfl) (by kernel_rfl) rfl (by kernel_rfl) ?_;have hS0:W1.drew.cell? ⟨E.rp,0,none⟩=some (.slice V.dA np V.dc)/\W1.drew.cell? ⟨w.heap.size,1,none⟩=some (.string x)/\W1.drew.cell? ⟨E.rp,4,none⟩=some (.int .i64 (nm:Int)):=⟨c0,hx1,c4⟩
 iterate 15(refine gP rfl hS0 (by intro w' hSw;obtain⟨hs1,hs2,hs3⟩:=hSw;go_simp;rfl) ?_;simp only[Act.put,sA,sZ,sC])
 refine gH (w':=W1.drew.alloc (.cells #[.int .i64 kind,.string x,.int .i64 (nm:Int),.int .i64 owner] 49)) rfl (by go_simp;rfl) ?_ ?_
 ·exact fun _=>⟨by go_simp,by go_simp,by go_simp⟩
 simp only[Act.put,sA,sZ,sC];refine r9 rfl (iY _ (.tmp 15) (.tmp 25) _ rfl E.base 49 i0 _ 4 40 Tryz.underlying27 hi0 hz0 hz1 hz2 rfl (.slice V.dA np V.dc) np (q.ds.flatMap cB) rfl (zw.out.drew.alloc _) ⟨W1.heap.size,0,none⟩ 1 1 (cB ⟨kind,x,(nm:Int),owner⟩) rfl rfl (rQ _ _ _ _ _ _ (by go_simp) (by go_simp) (by go_simp) (by go_simp)) (by simp[cB,Value.oneCell']) (by simp only[maxLen];omega) (by omega) (by simp;omega) ?_);intro v3 w3 hown3 hgrow3 uR;obtain⟨A3,c3,hv3,-,-⟩:=hown3.shape;subst hv3;have hz3:=hgrow3.size;simp at hz3
 have q1:w3.cell? ⟨E.rp,0,none⟩=some (.slice V.dA np V.dc):=by
  rw[hgrow3.cell_far _ (by simp;omega) (fun e1=>fC.out e1.symm)];go_simp
 have q2:w3.cell? ⟨w.heap.size,1,none⟩=some (.string x):=by
  rw[hgrow3.cell_far _ (by simp;omega) (fun e1=>uU.out e1.symm)];go_simp
 have q3:w3.cell? ⟨E.rp,4,none⟩=some (.int .i64 (nm:Int)):=by
  rw[hgrow3.cell_far _ (by simp;omega) (fun e1=>fC.out e1.symm)];go_simp
 have hB3:=ai.grown (ai.alloc (ai.drew H1.out.blk) (.cells #[.int .i64 kind,.string x,.int .i64 (nm:Int),.int .i64 owner] 49)) hgrow3 (fun e1=>fC.out e1.symm);have q5:=hB3.frozen 0;obtain⟨W4,lW⟩:∃W4,w3.setCell ⟨E.rp,0,none⟩ (.slice A3 (np+1) c3)=W4:=⟨_,rfl⟩
 have HR4:Hid (dL E G mk { q with ds:=q.ds++[⟨kind,x,(nm:Int),owner⟩] } { V with dA:=A3,dc:=c3 } W4/\KW E w W4):=kH (by
  have yO:Below W1.heap.size W1 (W1.drew.alloc (.cells #[.int .i64 kind,.string x,.int .i64 (nm:Int),.int .i64 owner] 49)):=((Below.refl _ _).drew).alloc (abE _) _;have h2:=H1.out.below yO;have hp:=h2.decl_ ⟨kind,x,(nm:Int),owner⟩ (A:=A3) (c:=c3) (by rw[mG.out,List.flatMap_append];simpa using hown3) (by rw[mG.out];exact hgrow3);have hk:=TP (E:=E) (w':=w3) h2.ds (.inl rfl) (by rw[mG.out];exact hgrow3) 0 (.slice A3 (np+1) c3);rw[mG.out,lW]at hp;rw[lW]at hk
  exact⟨hp,(KW.of_below (HB1.out.trans (yO.mono HB1.out.size))).trans hk⟩)
 clear hB3 hown3 hgrow3 uR;refine⟨fun _=>⟨q1,q2,q3⟩,?_⟩;iterate 3(simp only[Act.put,sA,sZ,sC];refine gH (w':=w3) rfl (by go_simp;rfl) (fun _=>⟨q1,q2,q3⟩) ?_)
 simp only[Act.put,sA,sZ,sC];refine gZ (w':=w3.setCell ⟨E.rp,0,none⟩ (.slice A3 (np+1) c3)) rfl (by go_simp) (by simp) ?_;refine iT ?_;simp only[Act.put];rw[lW];have hlen:({ q with ds:=q.ds++[⟨kind,x,(nm:Int),owner⟩] }:RW).ds.length=np+1:=by show(q.ds++[_]).length=_;rw[abP,mG.out];rfl
 obtain⟨W5,jk⟩:∃z,W4.drew=z:=⟨_,rfl⟩
 have hb5:Below W4.heap.size W4 W5:=by rw[<- jk];exact(Below.refl _ _).drew
 have fw:=HR4.out.1.below hb5;obtain⟨bu,ou,hA,hbu,mY,hfu,hput⟩:=fw.yo nm (by show nm<q.uses.length;rw[Bj.out];exact hU);obtain⟨u0,mY⟩:=mY;have Cs:=HR4.out.1.blk;have Rc:=fw.blk;rw[hlen]at Cs Rc;have e0:W4.cell? ⟨E.rp,0,none⟩=some (.slice A3 (np+1) c3):=Cs.cell 0;have e1:W5.cell? ⟨E.rp,1,none⟩=some (.slice E.uA nu E.uc):=by have:=Rc.cell 1;rw[Bj.out]at this;exact this
 have e4:W5.cell? ⟨E.rp,4,none⟩=some (.int .i64 (nm:Int)):=by have:=Rc.cell 4;rw[qP.out]at this;exact this
 rw[hA]at e1;have hl4:=Cs.lt;have hl5:=Rc.lt
 have HR:Hid (∃V',dL E G mk q' V' (W5.setCell ⟨bu,ou+nm,none⟩ (.int .i64 (np:Int)))/\KW E w (W5.setCell ⟨bu,ou+nm,none⟩ (.int .i64 (np:Int)))):=kH (by
  obtain⟨h5,h6⟩:=hput (np:Int);rw[HP.out,mG.out]
  exact⟨_,h5,(HR4.out.2.trans (KW.of_below hb5)).trans h6⟩)
 have hnw:IntKind.i64.wrap (((np+1:Nat):Int) - 1)=(np:Int):=by rw[IntWalk.i64_in _ (by omega)];omega
 have hnw2:IntKind.i64.wrap ((np:Int)+1 - 1)=(np:Int):=by rw[IntWalk.i64_in _ (by omega)];omega
 have hm0:¬((nm:Int)<0):=by omega
 have hmu:(nm:Int)<(nu:Int):=by omega
 clear hput lW Cs Rc hlen fw hb5;go_wp2_with fail
 refine dY (fun w'=>w'.cell? ⟨E.rp,1,none⟩=some (.slice (some ⟨bu,ou,none⟩) nu E.uc)/\w'.cell? ⟨E.rp,4,none⟩=some (.int .i64 (nm:Int))) [11] [true,true,true,true,true,true,true,true,true,true,false,false] (by kernel_rfl) (by kernel_rfl) rfl (by kernel_rfl) ?_;rw[jk];have hS5:W5.cell? ⟨E.rp,1,none⟩=some (.slice (some ⟨bu,ou,none⟩) nu E.uc)/\W5.cell? ⟨E.rp,4,none⟩=some (.int .i64 (nm:Int)):=⟨e1,e4⟩
 iterate 10(refine gP rfl hS5 (by intro w' hSw;obtain⟨hs1,hs2⟩:=hSw;go_simp;rfl) ?_;simp only[Act.put,sA,sZ,sC])
 refine gH (w':=W5) rfl (by go_simp;rfl) (fun _=>hS5) ?_;simp only[Act.put,sA,sZ,sC];refine gZ (w':=W5.setCell ⟨bu,ou+nm,none⟩ (.int .i64 (np:Int))) rfl (by go_simp) (by simp) ?_;refine iT ?_;simp only[Act.put];clear jk hS5;go_wp2_with fail
 go_ret
 exact⟨rfl,HR.out⟩
theorem xm{B:Nat}{w w':World}{row:Option Nat}(hg:w.grownBy w' row)(hB:B<=w.heap.size)(hr:∀k,row=some k->B<=k):Below B w w':=((aF.refl (fun g=>B<=g) w).grown hg (fun k hk=>.inl (hr k hk))).toBelow hB (fun _ hg=>hg)
theorem XH{G:List Dc}{q:RW}{s:List Nat}{t:ae}{c o:Int}(h:((oN q.ds s t.text).isSome || (oP G false t.text).isSome)=true):fK G q s t c o=(sG q 9 t,s):=by
 unfold fK;rw[if_pos h]
theorem XI{G:List Dc}{q:RW}{s:List Nat}{t:ae}{c o:Int}(h:((oN q.ds s t.text).isSome || (oP G false t.text).isSome)=false):fK G q s t c o=(sN q c t o,s++[q.ds.length]):=by
 unfold fK;rw[h,if_neg (by simp)]
theorem zi(s:List Nat):(s.flatMap jN).length=s.length:=by
 induction s with
 | nil=>rfl
 | cons a s ih=>rw[List.flatMap_cons,abP,ih];simp[jN];omega
theorem QB{s:List Nat}{j:Nat}{u:Value}(h:(s.flatMap jN)[j]? =some u):∃i,s[j]? =some i/\u= .int .i64 (i:Int):=by
 induction s generalizing j with
 | nil=>simp at h
 | cons a s ih=>
  rw[List.flatMap_cons]at h
  cases j with
  | zero=>
   simp[jN]at h;exact⟨a,rfl,h.symm⟩
  | succ j=>
   rw[abO (by simp[jN])]at h;obtain⟨i,h1,h2⟩:=ih (j:=j) (by simpa [jN] using h);exact⟨i,by simpa using h1,h2⟩
theorem gK.news{w:World}{ub:Option Nat}{A:Option Addr}{s:List Nat}(hs:gK w ub A s):∀j u,(s.flatMap jN)[j]? =some u->∃a,A=some a/\w.cell? (a.add j)=some u:=fun j u hu=>by
 obtain⟨i,h1,rfl⟩:=QB hu;obtain⟨b,off,cs,h2,-,-,h3⟩:=hs j i h1;exact⟨_,h2,by simpa [Addr.add_lit] using h3⟩
theorem Fz{s:List Nat}:∀u∈s.flatMap jN,u.oneCell'=true:=fun u hu=>by
 obtain⟨i,-,h⟩:=List.mem_flatMap.1 hu;simp[jN]at h;subst h;rfl
theorem ve(E:RE)(G:List Dc)(mk:Int)(q:RW)(V:RQ)(w:World)(h:dL E G mk q V w)(hN:q.ds.length<=1000000)(hL:q.list.length<=1000000)(hG:G.length<=1000000)(hU:q.num<q.uses.length)(hbase:E.base<=w.heap.size)
 (A:Option Addr) (n c:Nat) (s:List Nat) (hs:gK w (E.uA.map (·.block)) A s) (hsn:s.length=n) (hnc:n<=c) (hn:n<=1000000) (hlt:∀i∈s,i<q.ds.length) (kind owner:Int) (t:ae) (At:Option Addr) (ct:Nat):
 Calls Tryz.prog 161 #[.pointer (some ⟨E.rp,0,none⟩),.slice A n c,bD t At ct,.int .i64 kind,.int .i64 owner] w fun e w'=> ∃A' n' c',e= .returned (.slice A' n' c')/\(fK G q s t kind owner).2.length=n'/\n'<=c'/\gK w' (E.uA.map (·.block)) A' (fK G q s t kind owner).2 /\
  ∃V',dL E G mk (fK G q s t kind owner).1 V' w'/\KW E w w':=by
 obtain⟨i0,hi0,hz0,hz1,hz2⟩:=info_parts Au;obtain⟨k,x,a,z,m,-,hx,-,-,-,hv⟩:=fq t At ct;obtain⟨cc,hcc⟩:∃b,((oN q.ds s t.text).isSome || (oP G false t.text).isSome)=b:=⟨_,rfl⟩
 have hlk:=fun W hb=>Ht E G mk q V W (h.below hb) (E.uA.map (·.block)) A n c s (hs.below hb) hsn hlt x hn
 have hgl:=h.gl.rowAt (cells:=cB) (l:=G) rfl rfl (fun _ _=>rfl) rfl;have jE:=fun(W:World) (hb:Below w.heap.size w W)=>BA E.gA G.length E.gc G false x W ((hgl.below hb (abE _)).mono hb.size) rfl hG
 have uJ:=fun(W:World) (hb:Below w.heap.size w W)=>Bz E G mk q V W (h.below hb) hL (abF hbase hb.size) 9 t At ct
 have Ed:=fun(W:World) (hb:Below w.heap.size w W)=>Fv E G mk q V W (h.below hb) hN hU (abF hbase hb.size) kind owner t At ct
 rw[hv]at uJ Ed⊢;rw[hx]at hcc;have Dr:=kH hlk;have yY:=kH jE;have yD:=kH uJ;have EA:=kH Ed;have H:=kH h;have HS:=kH hs;have HCC:=kH hcc;have HX:=kH hx;have mF:=kH hsn;have hsome:Hid (cc=true->fK G q s t kind owner=(sG q 9 t,s)):=kH fun e=>XH (by rw[hx,hcc,e])
 have hnone:Hid (cc=false->fK G q s t kind owner=(sN q kind t owner,s++[q.ds.length])):=kH fun e=>XI (by rw[hx,hcc,e])
 obtain⟨lg,wV⟩:∃z,G.length=z:=⟨_,rfl⟩
 rw[wV]at yY;have HLG:=kH wV;clear hlk hgl jE uJ Ed hv hcc h hs hx hsn hlt wV hG hL;go_enter Tryz.func161,Tryz.ntmps161
 go_wp2_with fail
 generalize hW1:w.alloc (.cells #[.int .i64 k,.string x,.int .i64 a,.int .i64 z,.slice At m ct] 24)=W1
 have hb1:Below w.heap.size w W1:=by rw[<- hW1];exact ag _ _
 have hT1:ai W1 w.heap.size 24 #[.int .i64 k,.string x,.int .i64 a,.int .i64 z,.slice At m ct]:=by rw[<- hW1];exact ai.new w _ _
 have HB1:=kH hb1;have HT1:=kH hT1;clear hW1 hb1 hT1;go_upto_region 1 with fail
 go_cut [27] (fun s27 wx=>s27= .bool cc/\Below W1.heap.size W1 wx)
 case first=>
  have kF:∀W,Below W1.heap.size W1 W->W.cell? ⟨w.heap.size,1,none⟩=some (.string x)/\W.cell? ⟨E.rp,3,none⟩=some (.slice E.gA lg E.gc):=fun W hb=>by
   have hr:=(H.out.below (HB1.out.trans (hb.mono HB1.out.size))).blk.cell 3;rw[HLG.out]at hr;exact⟨(HT1.out.below hb HT1.out.lt).cell 1,hr⟩
  have dU:=kH kF;have hd1:Below W1.heap.size W1 W1.drew:=(Below.refl _ _).drew;have hS0:=dU.out _ hd1;clear kF
  cases hl:oN q.ds s x with
  | some j=>
   have hlx:xU q.ds s x=(j:Int):=by unfold xU;rw[hl]
   have hct:cc=true:=by rw[<- HCC.out,hl];rfl
   subst hct;have HLX:=kH hlx;clear hl hlx;refine dZ (fun w'=>w'.cell? ⟨w.heap.size,1,none⟩=some (.string x)/\w'.cell? ⟨E.rp,3,none⟩=some (.slice E.gA lg E.gc)) [] [true,true,true,true,false,true,true,true,true,true,true,true,true,true,true,true] (by kernel_rfl) (by kernel_rfl) rfl (by kernel_rfl) ?_;iterate 4((first|(refine eG (by rfl) hS0 ?_)|(refine dz (by rfl) hS0 (by intro w' hSw;obtain⟨hs1,hs2⟩:=hSw;go_simp;rfl) ?_));simp only[Act.put,sA,sZ,sC])
   refine gm (by rfl) (by go_simp) ((Dr.out _ (HB1.out.trans (hd1.mono HB1.out.size))).mono ?_);rintro e4 w4 ⟨rfl,hb4⟩;rw[HLX.out];have dO:Below W1.heap.size W1 w4:=hd1.trans (hb4.mono hd1.size);have tK:=dU.out _ dO;have hdj:decide ((0:Int)<=(j:Int))=true:=decide_eq_true (by omega);refine⟨_,rfl,fun _=>tK,?_⟩;simp only[Act.put,sA,sZ,sC];refine dz (v:=.bool true) (by rfl) tK (by intro w' hSw;go_simp) ?_;iterate 10(simp only[Act.put,sA,sZ,sC];(first|(refine eG (by rfl) tK ?_)|(refine dz (by rfl) tK (by intro w' hSw;obtain⟨hs1,hs2⟩:=hSw;go_simp;rfl) ?_)))
   simp only[Act.put,sA,sZ,sC];refine iU ?_;go_wp2_with fail
   go_meet
   exact⟨rfl,dO⟩
  | none=>
   have hlx:xU q.ds s x= -1:=by unfold xU;rw[hl]
   have hct:(oP G false x).isSome=cc:=by rw[<- HCC.out,hl];rfl
   have hfx:decide ((0:Int)<=uS G false x)=cc:=by
    rw[<- hct];unfold uS
    cases oP G false x with
    | none=>rfl
    | some j=>exact decide_eq_true (by show(0:Int)<=(j:Int);omega)
   obtain⟨fx,aaI⟩:∃z,uS G false x=z:=⟨_,rfl⟩
   rw[aaI]at hfx;have HFX:=kH aaI;have HLX:=kH hlx;have hfge:(fx >=0)=(0<=fx):=rfl;clear hl hlx hct aaI;refine dZ (fun w'=>w'.cell? ⟨w.heap.size,1,none⟩=some (.string x)/\w'.cell? ⟨E.rp,3,none⟩=some (.slice E.gA lg E.gc)) [] [true,true,true,true,false,true,true,true,true,true,true,true,true,false,true,true] (by kernel_rfl) (by kernel_rfl) rfl (by kernel_rfl) ?_;iterate 4((first|(refine eG (by rfl) hS0 ?_)|(refine dz (by rfl) hS0 (by intro w' hSw;obtain⟨hs1,hs2⟩:=hSw;go_simp;rfl) ?_));simp only[Act.put,sA,sZ,sC])
   refine gm (by rfl) (by go_simp) ((Dr.out _ (HB1.out.trans (hd1.mono HB1.out.size))).mono ?_);rintro e4 w4 ⟨rfl,hb4⟩;rw[HLX.out];have dO:Below W1.heap.size W1 w4:=hd1.trans (hb4.mono hd1.size);have tK:=dU.out _ dO;refine⟨_,rfl,fun _=>tK,?_⟩;simp only[Act.put,sA,sZ,sC];refine dz (v:=.bool false) (by rfl) tK (by intro w' hSw;go_simp) ?_;simp only[Act.put,sA,sZ,sC];have hlr4:=World.block_lt_of_cell? _ _ tK.2;iterate 7((first|(refine eG (by rfl) tK ?_)|(refine dz (by rfl) tK (by intro w' hSw;obtain⟨hs1,hs2⟩:=hSw;go_simp;rfl) ?_));simp only[Act.put,sA,sZ,sC])
   refine gm (by rfl) (by go_simp) ((yY.out _ (HB1.out.trans (dO.mono HB1.out.size))).mono ?_);rintro e5 w5 ⟨rfl,hb5⟩;rw[HFX.out];have pQ:Below W1.heap.size W1 w5:=dO.trans (hb5.mono dO.size);have hS5:=dU.out _ pQ;refine⟨_,rfl,fun _=>hS5,?_⟩;simp only[Act.put,sA,sZ,sC];refine dz (v:=.bool cc) (by rfl) hS5 (by intro w' hSw;go_simp) ?_;simp only[Act.put,sA,sZ,sC];first|(refine eG (by rfl) hS5 ?_)|(refine dz (by rfl) hS5 (by intro w' hSw;obtain⟨hs1,hs2⟩:=hSw;go_simp;rfl) ?_)
   simp only[Act.put,sA,sZ,sC];refine iU ?_;go_wp2_with fail
   go_meet
   exact⟨rfl,pQ⟩
 case rest=>
  obtain⟨rfl,hbq⟩:=hcut;have hbw:Below w.heap.size w wc:=HB1.out.trans (hbq.mono HB1.out.size);have qf:=kH hbw;have Rq:=HT1.out.below hbq HT1.out.lt;obtain⟨⟨t0,t1,t2,t3,t4⟩,-⟩:=Rq.five;have lt':=Rq.lt;clear hbq hbw Rq
  cases cc with
  | true=>
   have Su:=kH (hsome.out rfl);have IW:=kH (yD.out _ qf.out);clear hsome hnone yD EA;go_wp2_with fail
   refine IW.out.mono ?_;rintro e6 w6 ⟨rfl,V6,h6,k6⟩
   have aO:Hid (∃A' n' c',Value.slice A n c= .slice A' n' c'/\(fK G q s t kind owner).2.length=n'/\n'<=c'/\gK w6 (E.uA.map (·.block)) A' (fK G q s t kind owner).2/\∃V',dL E G mk (fK G q s t kind owner).1 V' w6/\KW E w w6):=kH (by
    rw[Su.out]
    exact⟨A,n,c,rfl,mF.out,hnc,(HS.out.below qf.out).kw k6 rfl ⟨_,(H.out.below qf.out).blk⟩,V6,h6,(KW.of_below qf.out).trans k6⟩)
   clear h6 k6 IW;go_wp2_with fail
   go_ret
   obtain⟨A',n',c',h1,h2⟩:=aO.out;exact⟨A',n',c',by rw[h1];rfl,h2⟩
  | false=>
   have Su:=kH (hnone.out rfl);have ZE:=kH (EA.out _ qf.out);clear hsome hnone yD EA;go_wp2_with fail
   refine ZE.out.mono ?_;rintro e6 w6 ⟨rfl,V6,h6,k6⟩;have k06:KW E w w6:=(KW.of_below qf.out).trans k6;have hs6:gK w6 (E.uA.map (·.block)) A s:=(HS.out.below qf.out).kw k6 rfl ⟨_,(H.out.below qf.out).blk⟩;have Bn:=kH k06;have Sc:=kH hs6;have H6:=kH h6;clear h6 k6 k06 hs6 ZE;obtain⟨nd,hnd⟩:∃z,q.ds.length=z:=⟨_,rfl⟩
   have lC:=kH hnd;rw[hnd];clear hnd;obtain⟨W7,uM⟩:∃z,w6.alloc (.cells #[] 3)=z:=⟨_,rfl⟩
   have dB:Below w6.heap.size w6 W7:=by rw[<- uM];exact ag _ _
   have YL:aL W7 w6.heap.size 3 1 (.slice (some ⟨w6.heap.size,0,none⟩) 0 0) 0 []:=by
    rw[<- uM];exact aL.block (abE _) (ai.new w6 _ _) (Nat.zero_le _) rfl
   have gN:=kH dB;have xK:=kH YL;clear dB YL;go_wp2_with (first|rw[uM]|(at_builtin;refine Ku _ rfl (.tmp 37) (.tmp 38) _ rfl w6.heap.size 3 i0 _ 1 8 Tryz.underlying142 hi0 hz0 hz1 hz2 rfl (by omega) (.slice (some ⟨w6.heap.size,0,none⟩) 0 0) 0 [] rfl xK.out A n c (s.flatMap jN) rfl (by rw[zi,mF.out];omega) (Sc.out.below gN.out).news Fz (by simp only[maxLen];omega) (by omega) gN.out.size ?_;intro v8 w8 hown hgrow hat;rw[Nat.zero_add,List.nil_append]at hown;obtain⟨A8,c8,dV,-,-⟩:=hown.shape;subst dV;have dW:Below w6.heap.size w6 w8:=gN.out.trans (xm hgrow gN.out.size (fun k hk=>by cases hk;exact abE _));have HOWN:=kH hown;have uP:=kH dW;clear hown hgrow hat dW uM)|(at_builtin;refine dm _ rfl (.tmp 39) (.tmp 41) _ rfl w6.heap.size 3 i0 _ 1 8 Tryz.underlying142 hi0 hz0 hz1 hz2 rfl (.slice A8 n c8) n (s.flatMap jN) rfl (HOWN.out.alloc _) ⟨w8.heap.size,0,none⟩ 1 1 [.int .i64 (nd:Int)] rfl rfl (DT _ _ _ (by go_simp)) (by simp[Value.oneCell']) (by simp only[maxLen];omega) (by omega) (by have:=uP.out.size;simp;omega) ?_;intro v9 w9 hown hgrow hat;obtain⟨A9,c9,gV,hnc9,-⟩:=hown.shape;subst gV;have hbA:Below w6.heap.size w6 (w8.alloc (.cells #[.int .i64 (nd:Int)] 3)):=uP.out.trans ((ag _ _).mono uP.out.size);have fA:Below w6.heap.size w6 w9:=hbA.trans (xm hgrow hbA.size (fun k hk=>(HOWN.out.lt k hk).1));have HOWN9:=kH hown;have zz:=kH fA;have HNC9:=kH hnc9;clear hown hgrow hat fA hbA hnc9))
   have aO:Hid (∃A' n' c',Value.slice A9 (n+1) c9= .slice A' n' c'/\(fK G q s t kind owner).2.length=n'/\n'<=c'/\gK w9 (E.uA.map (·.block)) A' (fK G q s t kind owner).2/\∃V',dL E G mk (fK G q s t kind owner).1 V' w9/\KW E w w9):=kH (by
    rw[Su.out];have hlen:(s++[q.ds.length]).length=n+1:=by rw[abP,mF.out];rfl
    refine⟨A9,n+1,c9,rfl,hlen,HNC9.out,gK.X6 (base:=w6.heap.size) (c:=c9) (n:=n+1) (by rw[List.flatMap_append,lC.out];exact HOWN9.out) hlen (fun g hg e=>?_),V6,H6.out.below zz.out,Bn.out.trans (KW.of_below zz.out)⟩;have h1:=(HOWN9.out.lt g hg).1;have h2:=(H6.out.us.lt g (by rw[GU];exact e)).2
    omega)
   go_ret
   obtain⟨A',n',c',h1,h2⟩:=aO.out;exact⟨A',n',c',by rw[h1];rfl,h2⟩
theorem zL{G:List Dc}{f:Bool}{x:ByteArray}{d:Dc}(h:mW G f x=some d):∃j:Nat,oP G f x=some j/\G[j]? =some d/\uS G f x=(j:Int)/\j<G.length:=by
 unfold mW at h
 cases hf:oP G f x with
 | none=>rw[hf]at h;cases h
 | some j=>
  rw[hf]at h;exact⟨j,rfl,h,by unfold uS;rw[hf],(abK.1 h).1⟩
theorem WS{G:List Dc}{f:Bool}{x:ByteArray}(h:mW G f x=none):uS G f x= -1:=by
 unfold mW at h;unfold uS
 cases hf:oP G f x with
 | none=>rfl
 | some j=>
  rw[hf]at h
  have hlt:j<G.length:=by
   have:=List.findIdx?_eq_some_iff_findIdx_eq.1 hf;exact this.1
  rw[show(some j).bind (fun k=>G[k]?)=G[j]? from rfl,abI hlt]at h;cases h
theorem Ch(E:RE)(G:List Dc)(mk:Int)(q:RW)(V:RQ)(w:World)(h:dL E G mk q V w)(hN:q.ds.length<=1000000)(hL:q.list.length<=1000000)(hG:G.length<=1000000)(hU:q.num<q.uses.length)(hbase:E.base<=w.heap.size)
 (kind owner:Int) (t:ae) (At:Option Addr) (ct:Nat) (d:Dc) (hd:mW G (decide (kind=1)) t.text=some d):
 Calls Tryz.prog 156 #[.pointer (some ⟨E.rp,0,none⟩),bD t At ct,.int .i64 kind,.int .i64 owner] w fun e w'=>e= .returned (.tuple #[])/\∃V',dL E G mk (fG G q t kind owner) V' w'/\KW E w w':=by
 obtain⟨k,x,a,z,m,-,hx,-,-,-,hv⟩:=fq t At ct;rw[hx]at hd;obtain⟨j,hj,YN,hfi,hjl⟩:=zL hd;have hgl:=h.gl.rowAt (cells:=cB) (l:=G) rfl rfl (fun _ _=>rfl) rfl;have jE:=fun(W:World) (hb:Below w.heap.size w W)=>BA E.gA G.length E.gc G (decide (kind=1)) x W ((hgl.below hb (abE _)).mono hb.size) rfl hG
 have uJ:=fun(W:World) (hb:Below w.heap.size w W)=>Bz E G mk q V W (h.below hb) hL (abF hbase hb.size) 9 t At ct
 have Ed:=fun(W:World) (hb:Below w.heap.size w W)=>Fv E G mk q V W (h.below hb) hN hU (abF hbase hb.size) kind owner t At ct
 obtain⟨gb,go,hgA,hgb,hgc⟩:=hgl j d YN;obtain⟨dn,hdn⟩:∃z,d.node=z:=⟨_,rfl⟩
 have d2:w.cell? ⟨gb,go+j*4+2,none⟩=some (.int .i64 dn):=by rw[<- hdn];exact hgc 2 _ rfl
 obtain⟨nm,hnm⟩:∃z,q.num=z:=⟨_,rfl⟩
 have aap:Hid (dn=(nm:Int)->fG G q t kind owner=sN q kind t owner):=kH fun e=>by
  unfold fG;rw[hx,hd,if_pos (by rw[hnm];exact congrArg some (hdn.trans e))]
 have hno:Hid (¬dn=(nm:Int)->fG G q t kind owner=sG q 9 t):=kH fun e=>by
  unfold fG;rw[hx,hd,if_neg (by rw[hnm];exact fun e2=>e (hdn.symm.trans (Option.some.inj e2)))]
 rw[hv]at uJ Ed⊢;rw[hfi]at jE;obtain⟨kb,hkb⟩:∃z,decide (kind=1)=z:=⟨_,rfl⟩
 rw[hkb]at jE;have hkb2:(kind==1)=kb:=by rw[<- hkb,Bool.eq_iff_iff];simp
 obtain⟨lg,wV⟩:∃z,G.length=z:=⟨_,rfl⟩
 rw[wV]at jE hjl hG;have yY:=kH jE;have yD:=kH uJ;have EA:=kH Ed;have H:=kH h;have HLG:=kH wV;have qP:=kH hnm;have HGA:=kH hgA;have HD2:Hid (w.cell? ⟨gb,go+j*4+2,none⟩=some (.int .i64 dn)/\gb<w.heap.size):=kH ⟨d2,hgb⟩;clear hgl jE uJ Ed hv h hx wV hd hj YN hfi hgA hgb hgc d2 hdn hnm hkb hL;go_enter Tryz.func156,Tryz.ntmps156
 go_wp2_with fail
 generalize hW1:w.alloc (.cells #[.int .i64 k,.string x,.int .i64 a,.int .i64 z,.slice At m ct] 24)=W1
 have hb1:Below w.heap.size w W1:=by rw[<- hW1];exact ag _ _
 have hT1:ai W1 w.heap.size 24 #[.int .i64 k,.string x,.int .i64 a,.int .i64 z,.slice At m ct]:=by rw[<- hW1];exact ai.new w _ _
 have HB1:=kH hb1;have HT1:=kH hT1;clear hW1 hb1 hT1
 have kF:∀W,Below W1.heap.size W1 W->W.cell? ⟨w.heap.size,1,none⟩=some (.string x)/\W.cell? ⟨E.rp,3,none⟩=some (.slice E.gA lg E.gc):=fun W hb=>by
  have hr:=(H.out.below (HB1.out.trans (hb.mono HB1.out.size))).blk.cell 3;rw[HLG.out]at hr;exact⟨(HT1.out.below hb HT1.out.lt).cell 1,hr⟩
 have dU:=kH kF;have hd1:Below W1.heap.size W1 W1.drew:=(Below.refl _ _).drew;have hS0:=dU.out _ hd1;clear kF;refine dZ (fun w'=>w'.cell? ⟨w.heap.size,1,none⟩=some (.string x)/\w'.cell? ⟨E.rp,3,none⟩=some (.slice E.gA lg E.gc)) [] [true,true,true,true,true,true,true,true,false,true] (by kernel_rfl) (by kernel_rfl) rfl (by kernel_rfl) ?_;iterate 8((first|(refine eG (by rfl) hS0 ?_)|(refine dz (by rfl) hS0 (by intro w' hSw;obtain⟨hs1,hs2⟩:=hSw;go_simp;rfl) ?_));simp only[Act.put,sA,sZ,sC])
 refine gm (by rfl) (by go_simp) ((yY.out _ (HB1.out.trans (hd1.mono HB1.out.size))).mono ?_);rintro e4 w4 ⟨rfl,hb4⟩;have dO:Below W1.heap.size W1 w4:=hd1.trans (hb4.mono hd1.size);have tK:=dU.out _ dO;refine⟨_,rfl,fun _=>tK,?_⟩;simp only[Act.put,sA,sZ,sC];first|(refine eG (by rfl) tK ?_)|(refine dz (by rfl) tK (by intro w' hSw;obtain⟨hs1,hs2⟩:=hSw;go_simp;rfl) ?_)
 simp only[Act.put,sA,sZ,sC];refine iU ?_;have hbw:Below w.heap.size w w4:=HB1.out.trans (dO.mono HB1.out.size);have qf:=kH hbw;have Rq:=HT1.out.below dO HT1.out.lt;obtain⟨⟨t0,t1,t2,t3,t4⟩,-⟩:=Rq.five;have lt':=Rq.lt;have Cs:=(H.out.below hbw).blk;rw[HLG.out,qP.out,HGA.out]at Cs;have r3:=Cs.cell 3;have r4:=Cs.cell 4;have lr4:=Cs.lt;have d2:w4.cell? ⟨gb,go+j*4+2,none⟩=some (.int .i64 dn):=(hbw.cell (p:=⟨gb,_,none⟩) HD2.out.2).trans HD2.out.1;have hj0:¬((j:Int)<0):=by omega
 have hji:(j:Int)<(lg:Int):=by omega
 clear hb4 dO tK hS0 hd1 hbw Rq Cs yY;by_cases hdn:dn=(nm:Int)
 ·subst hdn
  have Su:=kH (aap.out rfl);have ZE:=kH (fun nq=>EA.out (w4.drewN nq) (aR qf.out nq));clear aap hno yD EA;go_wp2_with fail
  go_quiet (fail)
  go_wp2_with fail
  refine(ZE.out _).mono ?_;rintro e6 w6 ⟨rfl,V6,h6,k6⟩
  have aO:Hid (∃V',dL E G mk (fG G q t kind owner) V' w6/\KW E w w6):=kH (by
   rw[Su.out]
   exact⟨V6,h6,(KW.of_below (aR qf.out _)).trans k6⟩)
  clear h6 k6 ZE;go_wp2_with fail
  go_end0
  exact⟨rfl,aO.out⟩
 ·have Su:=kH (hno.out hdn)
  have hdb:(dn !=(nm:Int))=true:=by simpa using hdn
  have IW:=kH (fun nq=>yD.out (w4.drewN nq) (aR qf.out nq));clear aap hno hdn EA yD;go_wp2_with fail
  go_quiet (fail)
  go_wp2_with fail
  refine(IW.out _).mono ?_;rintro e6 w6 ⟨rfl,V6,h6,k6⟩
  have aO:Hid (∃V',dL E G mk (fG G q t kind owner) V' w6/\KW E w w6):=kH (by
   rw[Su.out]
   exact⟨V6,h6,(KW.of_below (aR qf.out _)).trans k6⟩)
  clear h6 k6 IW;go_wp2_with fail
  try simp only[Exit.inBlock,Exit.then]
  refine bodyPost_ret (results_none rfl _ _ _) rfl ?_;exact⟨rfl,aO.out⟩
theorem DI(E:RE)(G:List Dc)(mk:Int)(q:RW)(V:RQ)(w:World)(h:dL E G mk q V w)(hL:q.list.length<=1000000)(hU:q.num<q.uses.length)(hbase:E.base<=w.heap.size)
 (t:ae) (At:Option Addr) (ct:Nat) (o:Option Int) (y:Int) (hy:∀k,o=some k->k=y/\0<=k/\k<=1000000) (hno:o=none->y= -1):
 Calls Tryz.prog 159 #[.pointer (some ⟨E.rp,0,none⟩),bD t At ct,.int .i64 y] w fun e w'=>e= .returned (.tuple #[])/\∃V',dL E G mk (su q t o) V' w'/\KW E w w':=by
 obtain⟨k,x,a,z,m,-,-,-,-,-,hv⟩:=fq t At ct;have hb1:Below w.heap.size w (w.alloc (.cells #[.int .i64 k,.string x,.int .i64 a,.int .i64 z,.slice At m ct] 24)):=ag _ _
 cases o with
 | none=>
  obtain rfl:=hno rfl;have hs:=Bz E G mk q V (w.alloc (.cells #[.int .i64 k,.string x,.int .i64 a,.int .i64 z,.slice At m ct] 24)) (h.below hb1) hL (abF hbase hb1.size) 8 t At ct;rw[hv]at hs⊢;have HB1:=kH hb1;have HS:=kH hs;clear hs hb1 hv h hy hno;go_enter Tryz.func159,Tryz.ntmps159
  go_wp2_with fail
  refine HS.out.mono ?_;rintro e w2 ⟨rfl,V2,h2,k2⟩;have HE:Hid (∃V',dL E G mk (su q t none) V' w2/\KW E w w2):=kH ⟨V2,h2,(KW.of_below HB1.out).trans k2⟩;clear h2 k2 HS HB1;go_wp2_with fail
  try simp only[Exit.inBlock,Exit.then]
  refine bodyPost_ret (results_none rfl _ _ _) rfl ?_;exact⟨rfl,HE.out⟩
 | some y'=>
  obtain⟨rfl,hy0,hy1⟩:=hy y' rfl;rw[hv];obtain⟨W1,hW1⟩:∃W1,w.alloc (.cells #[.int .i64 k,.string x,.int .i64 a,.int .i64 z,.slice At m ct] 24)=W1:=⟨_,rfl⟩
  rw[hW1]at hb1;obtain⟨W5,jk⟩:∃z,W1.drew=z:=⟨_,rfl⟩
  have hb5:Below w.heap.size w W5:=by rw[<- jk];exact hb1.drew
  have h1:=h.below hb5;obtain⟨nm,hnm⟩:∃z,q.num=z:=⟨_,rfl⟩
  rw[hnm]at hU;obtain⟨bu,ou,hA,hbu,mY,hfu,hput⟩:=h1.yo nm hU;obtain⟨u0,mY⟩:=mY;obtain⟨nu,hnu⟩:∃z,q.uses.length=z:=⟨_,rfl⟩
  rw[hnu]at hU;have hbl:=h1.blk;rw[hnu,hnm,hA]at hbl;have c1:=hbl.cell 1;have c4:=hbl.cell 4;have hl4:=hbl.lt
  have HR:Hid (∃V',dL E G mk (su q t (some y')) V' (W5.setCell ⟨bu,ou+nm,none⟩ (.int .i64 (-2 - y')))/\KW E w (W5.setCell ⟨bu,ou+nm,none⟩ (.int .i64 (-2 - y')))):=kH (by
   obtain⟨h5,h6⟩:=hput (-2 - y');refine⟨V,?_,(KW.of_below hb5).trans h6⟩;have e:su q t (some y')= { q with uses:=q.uses.set nm (-2 - y') }:=by rw[<- hnm];rfl
   rw[e]
   exact h5)
  have hn0:¬y'<0:=by omega
  have hw2:IntKind.i64.wrap (-2 - y')= -2 - y':=IntWalk.i64_in _ (by omega);have hm0:¬((nm:Int)<0):=by omega
  have hmu:(nm:Int)<(nu:Int):=by omega
  clear hput hv h h1 hnu hb1 hb5 hbl hy hno hnm hL;go_enter Tryz.func159,Tryz.ntmps159
  go_wp2_with (rw[hW1])
  refine dY (fun w'=>w'.cell? ⟨E.rp,1,none⟩=some (.slice (some ⟨bu,ou,none⟩) nu E.uc)/\w'.cell? ⟨E.rp,4,none⟩=some (.int .i64 (nm:Int))) [12] [true,true,true,true,true,true,true,true,true,true,true,false,false] (by kernel_rfl) (by kernel_rfl) rfl (by kernel_rfl) ?_;rw[jk];have hS5:W5.cell? ⟨E.rp,1,none⟩=some (.slice (some ⟨bu,ou,none⟩) nu E.uc)/\W5.cell? ⟨E.rp,4,none⟩=some (.int .i64 (nm:Int)):=⟨c1,c4⟩
  iterate 11(refine gP rfl hS5 (by intro w' hSw;obtain⟨hs1,hs2⟩:=hSw;go_simp;rfl) ?_;simp only[Act.put,sA,sZ,sC])
  refine gH (w':=W5) rfl (by go_simp;rfl) (fun _=>hS5) ?_;simp only[Act.put,sA,sZ,sC];refine gZ (w':=W5.setCell ⟨bu,ou+nm,none⟩ (.int .i64 (-2 - y'))) rfl (by go_simp) (by simp) ?_;refine iT ?_;simp only[Act.put];clear jk hS5;go_wp2_with fail
  go_end0
  exact⟨rfl,HR.out⟩
def vo(o:Option Int):Int:=match o with|some n=>n|none=> -1
theorem zD(E:RE)(G:List Dc)(mk:Int)(q:RW)(V:RQ)(w:World)(h:dL E G mk q V w)(hG:G.length<=1000000)(a b:Int)(x:ByteArray):
 Calls Tryz.prog 160 #[.pointer (some ⟨E.rp,0,none⟩),.int .i64 a,.int .i64 b,.string x] w fun e w'=>e= .returned (.int .i64 (vo (gu G a b x)))/\Below w.heap.size w w':=by
 have hgl:=h.gl.rowAt (cells:=cB) (l:=G) rfl rfl (fun _ _=>rfl) rfl;have jE:=BA E.gA G.length E.gc G (decide (a=1)) x w hgl rfl hG;have hblk:=h.blk;obtain⟨lg,wV⟩:∃z,G.length=z:=⟨_,rfl⟩
 obtain⟨kb,hkb⟩:∃z,decide (a=1)=z:=⟨_,rfl⟩
 rw[hkb]at jE;rw[wV]at jE hblk;have hkb2:(a==1)=kb:=by rw[<- hkb,Bool.eq_iff_iff];simp
 cases hg:mW G (decide (a=1)) x with
 | none=>
  have hfi:=WS hg;rw[hkb]at hfi;rw[hfi]at jE;have hres:vo (gu G a b x)= -1:=by unfold gu;rw[hg];rfl
  have aM:=kH hres;have yY:=kH jE;have r3:=hblk.cell 3;have lr:=hblk.lt;clear h hgl jE hblk wV hkb hG hg hfi hres;go_enter Tryz.func160,Tryz.ntmps160
  go_wp2_with fail
  refine yY.out.mono ?_;rintro e2 w2 ⟨rfl,hb2⟩;go_wp2_with fail
  go_ret
  rw[aM.out];exact⟨rfl,hb2⟩
 | some d=>
  obtain⟨j,hj,YN,hfi,hjl⟩:=zL hg;rw[hkb]at hfi;rw[hfi]at jE;rw[wV]at hjl hG;obtain⟨gb,go,hgA,hgb,hgc⟩:=hgl j d YN;obtain⟨dn,hdn⟩:∃z,d.node=z:=⟨_,rfl⟩
  obtain⟨dk,hdk⟩:∃z,d.kind=z:=⟨_,rfl⟩
  have d0:w.cell? ⟨gb,go+j*4,none⟩=some (.int .i64 dk):=by rw[<- hdk];simpa using hgc 0 _ rfl
  have d2:w.cell? ⟨gb,go+j*4+2,none⟩=some (.int .i64 dn):=by rw[<- hdn];exact hgc 2 _ rfl
  have hres:vo (gu G a b x)=if dk=a\/dk=b then dn else -1:=by
   unfold gu;rw[hg];show vo (if d.kind=a\/d.kind=b then some d.node else none)=_;rw[hdk,hdn];split<;>rfl
  rw[hgA]at hblk;rw[hgA]at jE;have r3:=hblk.cell 3;have lr:=hblk.lt;have yY:=kH jE;have hj0:¬((j:Int)<0):=by omega
  have hji:(j:Int)<(lg:Int):=by omega
  clear h hgl jE hblk wV hkb hg hj YN hfi hgA hgc hdn hdk;by_cases h1:dk=a
  ·have aM:=kH (hres.trans (if_pos (.inl h1)))
   clear hres;subst h1;go_enter Tryz.func160,Tryz.ntmps160
   go_wp2_with fail
   refine yY.out.mono ?_;rintro e2 w2 ⟨rfl,hb2⟩;have s3:=(hb2.cell (p:=⟨E.rp,3,none⟩) lr).trans r3;have s0:=(hb2.cell (p:=⟨gb,go+j*4,none⟩) hgb).trans d0;have s2:=(hb2.cell (p:=⟨gb,go+j*4+2,none⟩) hgb).trans d2;have sl:=Nat.lt_of_lt_of_le lr hb2.size;go_wp2_with fail
   go_ret
   rw[aM.out];exact⟨rfl,hb2⟩
  ·have h1b:(dk !=a)=true:=by simpa using h1
   by_cases h2:dk=b
   ·have aM:=kH (hres.trans (if_pos (.inr h2)))
    clear hres;subst h2;go_enter Tryz.func160,Tryz.ntmps160
    go_wp2_with fail
    refine yY.out.mono ?_;rintro e2 w2 ⟨rfl,hb2⟩;have s3:=(hb2.cell (p:=⟨E.rp,3,none⟩) lr).trans r3;have s0:=(hb2.cell (p:=⟨gb,go+j*4,none⟩) hgb).trans d0;have s2:=(hb2.cell (p:=⟨gb,go+j*4+2,none⟩) hgb).trans d2;have sl:=Nat.lt_of_lt_of_le lr hb2.size;go_wp2_with fail
    go_ret
    rw[aM.out];exact⟨rfl,hb2⟩
   ·have h2b:(dk !=b)=true:=by simpa using h2
    have hn:¬(dk=a\/dk=b):=fun e=>e.elim h1 h2
    have aM:=kH (hres.trans (if_neg hn));clear h1 h2 hn hres;go_enter Tryz.func160,Tryz.ntmps160
    go_wp2_with fail
    refine yY.out.mono ?_;rintro e2 w2 ⟨rfl,hb2⟩;have s3:=(hb2.cell (p:=⟨E.rp,3,none⟩) lr).trans r3;have s0:=(hb2.cell (p:=⟨gb,go+j*4,none⟩) hgb).trans d0;have s2:=(hb2.cell (p:=⟨gb,go+j*4+2,none⟩) hgb).trans d2;have sl:=Nat.lt_of_lt_of_le lr hb2.size;go_wp2_with fail
    go_ret
    rw[aM.out];exact⟨rfl,hb2⟩
end Go.Proofs.YtoepemlnlpamlaaGreat
