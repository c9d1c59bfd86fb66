/- The law NamesBack holds for every text and every number: it returns true, and its arguments read as before. No condition. Part 25: Nam4 Nam5 Nam6. -/
import Derived.Test.YtoepemlnlpamlaaGreatBakk24
set_option maxRecDepth 100000
set_option maxHeartbeats 4000000
namespace Go.Proofs.YtoepemlnlpamlaaGreat
open Go.RowKit
theorem XY:(Tryz.prog.info? 49).map (fun i=>(i.zero,i.size,i.bytes))=some (some (.agg #[.int .i64 0,.string ⟨#[]⟩,.int .i64 0,.int .i64 0]),4,40):=by kernel_rfl
theorem aS.UN{E:RC}{G:aW}{r:RS}{V:RV}{w w3:World}(h:aS E G r V w)(p:Dc){A3:Option Addr}{c3:Nat}
 (ho:aL w3 E.base 49 4 (.slice A3 (r.ds.length+1) c3) (r.ds.length+1) (r.ds.flatMap kz++kz p)) (hg:w.grownBy w3 (Value.slice V.dA r.ds.length V.dc).ownBlock) (M:Nat->Prop):
 aS E G { r with ds:=r.ds++[p] } { V with dA:=A3,dc:=c3 } (w3.setCell ⟨E.rp,3,none⟩ (.slice A3 (r.ds.length+1) c3))/\KX E M w (w3.setCell ⟨E.rp,3,none⟩ (.slice A3 (r.ds.length+1) c3)):=by
 have hs:az (fun g=>g=E.rp\/(Value.slice V.dA r.ds.length V.dc).ownBlock=some g) w (w3.setCell ⟨E.rp,3,none⟩ (.slice A3 (r.ds.length+1) c3)):=
  ((az.refl _ w).grown hg (fun g hg=>.inl (.inr hg))).setCell (.inl (.inl rfl)) _
 have hpr:(Value.slice V.dA r.ds.length V.dc).ownBlock≠some E.rp:=h.ds.eu h.blk (by decide);have hb3:ai w3 E.rp 75 _:=h.blk.grown hg (Ne.symm hpr)
 have gQ:∀{K:Type} [DecidableEq K] {KK:om K}{q:Nat}{m:List (K×Value)},aZ KK w q m->aZ KK (w3.setCell ⟨E.rp,3,none⟩ (.slice A3 (r.ds.length+1) c3)) q m:=fun ha=>ha.since hs (fun h1=>by
  rcases h1 with h1|h1
  ·exact ha.qP h.blk h1
  ·exact ha.jf h.ds h1)
 have how:∀{e size v n xs},aL w E.base e size v n xs->e≠75->e≠49->aL (w3.setCell ⟨E.rp,3,none⟩ (.slice A3 (r.ds.length+1) c3)) E.base e size v n xs:=fun ha h1 h2=>ha.since hs (fun g hg h3=>by
  rcases h3 with h3|h3
  ·exact ha.eu h.blk h1 (by rw[hg,h3])
  ·exact ha.apart h.ds h2 g hg h3)
 refine⟨⟨?_,gQ h.gl,gQ h.fl,gQ h.kn,gQ h.vi,?_,?_,how h.us (by decide) (by decide),how h.ps (by decide) (by decide),h.low,h.apart⟩,?_⟩
 ·have:=hb3.fU 3 (.slice A3 (r.ds.length+1) c3)
  simpa using this
 ·refine eX.of_block h.bQ fun g cur hg _=>hs.block g (aaG.1 hg).1 fun h1=>?_
  rcases h1 with h1|h1
  ·subst h1
   have hb:w.heap[E.rp]? =some (.cells _ 75 (0,0)):=h.blk;rw[hb]at hg;simp at hg
  ·obtain⟨cur',hg'⟩:=h.ds.obj g h1
   rw[hg']at hg;simp at hg
 ·have CW:(Value.slice A3 (r.ds.length+1) c3).ownBlock≠some E.rp:=ho.eu hb3 (by decide)
  have:=ho.setCell (p:=⟨E.rp,3,none⟩) CW (.slice A3 (r.ds.length+1) c3);simpa using this
 ·refine az.mono hs fun g h1=>?_
  rcases h1 with rfl|h1
  ·exact⟨h.low.1,.inl ⟨_,_,_,h.blk,.inl rfl⟩⟩
  ·obtain⟨cur,hc⟩:=h.ds.obj g h1
   exact⟨(h.ds.lt g h1).1,.inl ⟨_,_,_,hc,.inr (.inr (.inl rfl))⟩⟩
theorem aS.JB{E:RC}{G:aW}{r:RS}{V:RV}{w:World}(h:aS E G r V w)(i:Nat)(hi:i<r.uses.length)(M:Nat->Prop):
 ∃b off,E.uA=some ⟨b,off,none⟩/\b<w.heap.size/\(∃u,w.cell? ⟨b,off+i,none⟩=some (.int .i64 u))/\w.frozen? ⟨b,off+i,none⟩=false /\
  ∀y:Int,aS E G { r with uses:=r.uses.set i y } V (w.setCell ⟨b,off+i,none⟩ (.int .i64 y))/\KX E M w (w.setCell ⟨b,off+i,none⟩ (.int .i64 y)):=by
 obtain⟨b,off,cap,hv,-,-,hlo,hlt,hcs⟩:=h.us.form (by omega);have hA:E.uA=some ⟨b,off,none⟩:=by injection hv
 have hlen:=h.us.1;refine⟨b,off,hA,hlt,⟨_,hcs i (.int .i64 r.uses[i]) (by simp[iE,hi])⟩,?_,fun y=>?_⟩
 ·obtain⟨cur,hc⟩:=h.us.obj b (by rw[hA];rfl)
  simp[World.frozen?,hc]
 have hub:(Value.slice E.uA r.uses.length E.uc).ownBlock=some b:=by rw[hA];rfl
 have hs:az (fun g=>g=b) w (w.setCell ⟨b,off+i,none⟩ (.int .i64 y)):=az.setCell (S:=fun g=>g=b) (az.refl _ w) (p:=⟨b,off+i,none⟩) (.inl rfl) _;have hbr:b≠E.rp:=fun e=>h.us.eu h.blk (by decide) (by rw[hub,e])
 have gQ:∀{K:Type} [DecidableEq K] {KK:om K}{q:Nat}{m:List (K×Value)},aZ KK w q m->aZ KK (w.setCell ⟨b,off+i,none⟩ (.int .i64 y)) q m:=fun ha=>ha.since hs (fun h1=>ha.jf h.us (by rw[hub,h1]))
 have hl:(r.uses.set i y).length=r.uses.length:=List.length_set;refine⟨⟨?_,gQ h.gl,gQ h.fl,gQ h.kn,gQ h.vi,?_,h.ds.since hs (fun g hg h3=>h.ds.apart h.us (by decide) g hg (by rw[hub,h3])),?_,h.ps.since hs (fun g hg h3=>h.ps.apart h.us (by decide) g hg (by rw[hub,h3])),h.low,h.apart⟩,?_⟩
 ·have:=h.blk.far (p:=⟨b,off+i,none⟩) (Ne.symm hbr) (.int .i64 y)
  simpa [hl] using this
 ·have hv2:=h.bQ
  simp only[hl];refine eX.of_block hv2 fun g cur hg hne=>hs.block g (aaG.1 hg).1 fun h1=>hne (by rw[hub,h1])
 ·have h5:=h.us
  rw[hA]at h5;have:=h5.set1 i hi (.int .i64 y);simp only[hl,hA];have S9:iE (r.uses.set i y)=(iE r.uses).set i (.int .i64 y):=by simp[iE,List.map_set]
  rw[S9];exact this
 ·refine az.mono hs fun g h1=>?_
  subst h1;obtain⟨cur,hc⟩:=h.us.obj g hub;exact⟨hlo,.inl ⟨_,_,_,hc,.inr (.inr (.inr (by rw[hA];rfl)))⟩⟩
theorem RX(E:RC)(G:aW)(r:RS)(V:RV)(w:World)(h:aS E G r V w)(hN:r.ds.length<=1000000)(hbase:E.base<=w.heap.size)(kind:Int)(n:Nat)(hn:n<r.uses.length)(t:aa)(A:Option Addr)(c:Nat)(M:Nat->Prop):
 Calls Tryz.prog 147 #[.pointer (some ⟨E.rp,0,none⟩),.int .i64 kind,.int .i64 (n:Int),aX t A c,.bool false] w fun e w'=>e= .returned (.bool true)/\∃V',aS E G (iR r kind n t) V' w'/\KX E M w w':=by
 obtain⟨i0,hi0,hz0,hz1,hz2⟩:=info_parts XY;obtain⟨ow,how⟩:∃ow,(if kind=0\/kind=2 then(-1:Int) else r.owner)=ow:=⟨_,rfl⟩
 have HP:Hid (iR r kind n t= { r with ds:=r.ds++[⟨kind,t.text,n,ow⟩],uses:=r.uses.set n (n:Int) }):=kH (by rw[<- how];rfl);unfold aX;obtain⟨q,hq⟩:∃q,iR r kind n t=q:=⟨_,rfl⟩
 rw[hq]at HP⊢;obtain⟨k,hk0⟩:∃q,t.kind=q:=⟨_,rfl⟩
 obtain⟨x,hx0⟩:∃q,t.text=q:=⟨_,rfl⟩
 obtain⟨a,ha0⟩:∃q,t.at_=q:=⟨_,rfl⟩
 obtain⟨z,hz0'⟩:∃q,t.end_=q:=⟨_,rfl⟩
 obtain⟨m,hm0⟩:∃q,t.kids.length=q:=⟨_,rfl⟩
 rw[hk0,hx0,ha0,hz0',hm0];rw[hx0]at HP;obtain⟨np,vK⟩:∃q,r.ds.length=q:=⟨_,rfl⟩
 obtain⟨nu,hnu⟩:∃q,r.uses.length=q:=⟨_,rfl⟩
 obtain⟨ro,hro⟩:∃q,r.owner=q:=⟨_,rfl⟩
 rw[vK]at hN;rw[hnu]at hn;rw[hro]at how;have H:=kH h;have tX:=kH vK;have wV:=kH hnu;have HRO:=kH hro;clear hq hk0 hx0 ha0 hz0' hm0 h vK hnu hro;have hW1:∃W1,W1=w.alloc (.cells #[.int .i64 k,.string x,.int .i64 a,.int .i64 z,.slice A m c] 24):=⟨_,rfl⟩
 obtain⟨W1,hW1⟩:=hW1;have hb1:Below w.heap.size w W1:=by rw[hW1];exact af _ _
 have hT1:ai W1 w.heap.size 24 #[.int .i64 k,.string x,.int .i64 a,.int .i64 z,.slice A m c]:=by rw[hW1];exact ai.new w _ _
 have h1:=H.out.below hb1;have c3:W1.cell? ⟨E.rp,3,none⟩=some (.slice V.dA np V.dc):=by have:=h1.blk.cell 3;rw[tX.out]at this;exact this
 have c8:W1.cell? ⟨E.rp,8,none⟩=some (.int .i64 ro):=by have:=h1.blk.cell 8;rw[HRO.out]at this;exact this
 have hlr:=h1.blk.lt;have hx1:=hT1.cell 1;have hlt:=hT1.lt;have ho1:=h1.ds;rw[tX.out]at ho1;have Lf:=kH ho1;have H1:=kH h1;have HB1:=kH hb1;have hne:(Value.slice V.dA np V.dc).ownBlock≠some E.rp:=ho1.eu h1.blk (by decide);have hne2:(Value.slice V.dA np V.dc).ownBlock≠some w.heap.size:=ho1.eu hT1 (by decide);have jb:=kH hne;have BG:=kH hne2;have hbs:E.base<=W1.heap.size:=aaE hbase hb1.size;have hrw:=H.out.blk.lt;have c8w:w.cell? ⟨E.rp,8,none⟩=some (.int .i64 ro):=by have:=H.out.blk.cell 8;rw[HRO.out]at this;exact this
 clear ho1 h1 hT1 hb1 hne hne2;rcases(show kind=0\/kind=2\/(kind≠0/\kind≠2) by omega) with rfl|rfl| ⟨hk0,hk2⟩
 ·have PQ:ow= -1:=by exact how.symm.trans (by simp)
  subst PQ;clear how;go_enter Tryz.func147,Tryz.ntmps147
  go_wp2_with fail
  rw[<- hW1];clear hW1;refine fT (fun w'=>w'.cell? ⟨E.rp,3,none⟩=some (.slice V.dA np V.dc)/\w'.cell? ⟨w.heap.size,1,none⟩=some (.string x)) [15] [true,true,true,true,true,true,true,true,true,true,true,false,false,false,false,false] (by kernel_rfl) (by kernel_rfl) rfl (by kernel_rfl) ?_;have hS0:W1.drew.cell? ⟨E.rp,3,none⟩=some (.slice V.dA np V.dc)/\W1.drew.cell? ⟨w.heap.size,1,none⟩=some (.string x):=⟨c3,hx1⟩
  iterate 11(refine jI rfl hS0 (by intro w' hSw;obtain⟨hs1,hs2⟩:=hSw;go_simp;rfl) ?_;simp only[Act.put,sA,sZ,sC])
  refine kD (w':=W1.drew.alloc (.cells #[.int .i64 (0:Int),.string x,.int .i64 (n:Int),.int .i64 (-1)] 49)) rfl (by go_simp;rfl) ?_ ?_
  ·exact fun _=>⟨by go_simp,by go_simp⟩
  simp only[Act.put,sA,sZ,sC];refine uW rfl (jY _ (.tmp 31) (.tmp 38) _ rfl E.base 49 i0 _ 4 40 Tryz.underlying27 hi0 hz0 hz1 hz2 rfl (.slice V.dA np V.dc) np (r.ds.flatMap kz) rfl (Lf.out.drew.alloc _) ⟨W1.heap.size,0,none⟩ 1 1 (kz ⟨(0:Int),x,(n:Int),(-1)⟩) rfl rfl (vI _ _ _ _ _ _ (by go_simp) (by go_simp) (by go_simp) (by go_simp)) (by simp[kz,Value.oneCell']) (by simp only[maxLen];omega) (by omega) (by simp;omega) ?_);intro v3 w3 hown3 hgrow3 yK;obtain⟨A3,c3',hv3,-,-⟩:=hown3.shape;subst hv3;have hz3:=hgrow3.size;simp at hz3
  have q1:w3.cell? ⟨E.rp,3,none⟩=some (.slice V.dA np V.dc):=by
   rw[hgrow3.cell_far _ (by simp;omega) (fun e1=>jb.out e1.symm)];go_simp
  have q2:w3.cell? ⟨w.heap.size,1,none⟩=some (.string x):=by
   rw[hgrow3.cell_far _ (by simp;omega) (fun e1=>BG.out e1.symm)];go_simp
  have hB3:=ai.grown (ai.alloc (ai.drew H1.out.blk) (.cells #[.int .i64 (0:Int),.string x,.int .i64 (n:Int),.int .i64 (-1)] 49)) hgrow3 (fun e1=>jb.out e1.symm);have q5:=hB3.frozen 3;obtain⟨W4,lV⟩:∃W4,w3.setCell ⟨E.rp,3,none⟩ (.slice A3 (np+1) c3')=W4:=⟨_,rfl⟩
  have HR4:Hid (aS E G { r with ds:=r.ds++[⟨(0:Int),x,(n:Int),(-1)⟩] } { V with dA:=A3,dc:=c3' } W4/\KX E M w W4):=kH (by
   have EY:Below W1.heap.size W1 (W1.drew.alloc (.cells #[.int .i64 (0:Int),.string x,.int .i64 (n:Int),.int .i64 (-1)] 49)):=((Below.refl _ _).drew).alloc (aaD _) _;have h2:=H1.out.below EY;have hp:=h2.UN ⟨(0:Int),x,(n:Int),(-1)⟩ (A3:=A3) (c3:=c3') (by rw[tX.out];exact hown3) (by rw[tX.out];exact hgrow3) M;rw[tX.out,lV]at hp
   exact⟨hp.1,(KX.of_below (HB1.out.trans (EY.mono HB1.out.size))).trans hp.2 (fun g hg=>.inl hg)⟩)
  clear hB3 hown3 hgrow3 yK;refine⟨fun _=>⟨q1,q2⟩,?_⟩;iterate 2(simp only[Act.put,sA,sZ,sC];refine kD (w':=w3) rfl (by go_simp;rfl) (fun _=>⟨q1,q2⟩) ?_)
  simp only[Act.put,sA,sZ,sC];refine kG (w':=w3.setCell ⟨E.rp,3,none⟩ (.slice A3 (np+1) c3')) rfl (by go_simp) (by simp) ?_;refine ll ?_;simp only[Act.put];rw[lV];obtain⟨bu,ou,hA,hbu,uB,hfu,hput⟩:=HR4.out.1.JB n (by rw[wV.out];exact hn) M;obtain⟨u0,uB⟩:=uB;have c4:W4.cell? ⟨E.rp,4,none⟩=some (.slice E.uA nu E.uc):=by have:=HR4.out.1.blk.cell 4;rw[wV.out]at this;exact this
  rw[hA]at c4;have hl4:=HR4.out.1.blk.lt
  have HR:Hid (∃V',aS E G q V' (W4.setCell ⟨bu,ou+n,none⟩ (.int .i64 (n:Int)))/\KX E M w (W4.setCell ⟨bu,ou+n,none⟩ (.int .i64 (n:Int)))):=kH (by
   obtain⟨h5,h6⟩:=hput (n:Int);rw[HP.out]
   exact⟨_,h5,HR4.out.2.trans h6 (fun g hg=>.inl hg)⟩)
  clear hput lV;go_wp2_with fail
  go_ret
  exact⟨rfl,HR.out⟩
 ·have PQ:ow= -1:=by exact how.symm.trans (by simp)
  subst PQ;clear how;go_enter Tryz.func147,Tryz.ntmps147
  go_wp2_with fail
  rw[<- hW1];clear hW1;refine fT (fun w'=>w'.cell? ⟨E.rp,3,none⟩=some (.slice V.dA np V.dc)/\w'.cell? ⟨w.heap.size,1,none⟩=some (.string x)) [15] [true,true,true,true,true,true,true,true,true,true,true,false,false,false,false,false] (by kernel_rfl) (by kernel_rfl) rfl (by kernel_rfl) ?_;have hS0:W1.drew.cell? ⟨E.rp,3,none⟩=some (.slice V.dA np V.dc)/\W1.drew.cell? ⟨w.heap.size,1,none⟩=some (.string x):=⟨c3,hx1⟩
  iterate 11(refine jI rfl hS0 (by intro w' hSw;obtain⟨hs1,hs2⟩:=hSw;go_simp;rfl) ?_;simp only[Act.put,sA,sZ,sC])
  refine kD (w':=W1.drew.alloc (.cells #[.int .i64 (2:Int),.string x,.int .i64 (n:Int),.int .i64 (-1)] 49)) rfl (by go_simp;rfl) ?_ ?_
  ·exact fun _=>⟨by go_simp,by go_simp⟩
  simp only[Act.put,sA,sZ,sC];refine uW rfl (jY _ (.tmp 31) (.tmp 38) _ rfl E.base 49 i0 _ 4 40 Tryz.underlying27 hi0 hz0 hz1 hz2 rfl (.slice V.dA np V.dc) np (r.ds.flatMap kz) rfl (Lf.out.drew.alloc _) ⟨W1.heap.size,0,none⟩ 1 1 (kz ⟨(2:Int),x,(n:Int),(-1)⟩) rfl rfl (vI _ _ _ _ _ _ (by go_simp) (by go_simp) (by go_simp) (by go_simp)) (by simp[kz,Value.oneCell']) (by simp only[maxLen];omega) (by omega) (by simp;omega) ?_);intro v3 w3 hown3 hgrow3 yK;obtain⟨A3,c3',hv3,-,-⟩:=hown3.shape;subst hv3;have hz3:=hgrow3.size;simp at hz3
  have q1:w3.cell? ⟨E.rp,3,none⟩=some (.slice V.dA np V.dc):=by
   rw[hgrow3.cell_far _ (by simp;omega) (fun e1=>jb.out e1.symm)];go_simp
  have q2:w3.cell? ⟨w.heap.size,1,none⟩=some (.string x):=by
   rw[hgrow3.cell_far _ (by simp;omega) (fun e1=>BG.out e1.symm)];go_simp
  have hB3:=ai.grown (ai.alloc (ai.drew H1.out.blk) (.cells #[.int .i64 (2:Int),.string x,.int .i64 (n:Int),.int .i64 (-1)] 49)) hgrow3 (fun e1=>jb.out e1.symm);have q5:=hB3.frozen 3;obtain⟨W4,lV⟩:∃W4,w3.setCell ⟨E.rp,3,none⟩ (.slice A3 (np+1) c3')=W4:=⟨_,rfl⟩
  have HR4:Hid (aS E G { r with ds:=r.ds++[⟨(2:Int),x,(n:Int),(-1)⟩] } { V with dA:=A3,dc:=c3' } W4/\KX E M w W4):=kH (by
   have EY:Below W1.heap.size W1 (W1.drew.alloc (.cells #[.int .i64 (2:Int),.string x,.int .i64 (n:Int),.int .i64 (-1)] 49)):=((Below.refl _ _).drew).alloc (aaD _) _;have h2:=H1.out.below EY;have hp:=h2.UN ⟨(2:Int),x,(n:Int),(-1)⟩ (A3:=A3) (c3:=c3') (by rw[tX.out];exact hown3) (by rw[tX.out];exact hgrow3) M;rw[tX.out,lV]at hp
   exact⟨hp.1,(KX.of_below (HB1.out.trans (EY.mono HB1.out.size))).trans hp.2 (fun g hg=>.inl hg)⟩)
  clear hB3 hown3 hgrow3 yK;refine⟨fun _=>⟨q1,q2⟩,?_⟩;iterate 2(simp only[Act.put,sA,sZ,sC];refine kD (w':=w3) rfl (by go_simp;rfl) (fun _=>⟨q1,q2⟩) ?_)
  simp only[Act.put,sA,sZ,sC];refine kG (w':=w3.setCell ⟨E.rp,3,none⟩ (.slice A3 (np+1) c3')) rfl (by go_simp) (by simp) ?_;refine ll ?_;simp only[Act.put];rw[lV];obtain⟨bu,ou,hA,hbu,uB,hfu,hput⟩:=HR4.out.1.JB n (by rw[wV.out];exact hn) M;obtain⟨u0,uB⟩:=uB;have c4:W4.cell? ⟨E.rp,4,none⟩=some (.slice E.uA nu E.uc):=by have:=HR4.out.1.blk.cell 4;rw[wV.out]at this;exact this
  rw[hA]at c4;have hl4:=HR4.out.1.blk.lt
  have HR:Hid (∃V',aS E G q V' (W4.setCell ⟨bu,ou+n,none⟩ (.int .i64 (n:Int)))/\KX E M w (W4.setCell ⟨bu,ou+n,none⟩ (.int .i64 (n:Int)))):=kH (by
   obtain⟨h5,h6⟩:=hput (n:Int);rw[HP.out]
   exact⟨_,h5,HR4.out.2.trans h6 (fun g hg=>.inl hg)⟩)
  clear hput lV;go_wp2_with fail
  go_ret
  exact⟨rfl,HR.out⟩
 ·have PQ:ow=ro:=by rw[<- how,if_neg (by omega)]
  subst PQ;clear how;go_enter Tryz.func147,Tryz.ntmps147
  go_wp2_with fail
  ·have hor:(kind==0)=true\/(kind==2)=true:=by assumption
   exfalso
   rcases hor with e|e
   ·exact hk0 (by simpa using e)
   ·exact hk2 (by simpa using e)
  rw[<- hW1];clear hW1;refine fT (fun w'=>w'.cell? ⟨E.rp,3,none⟩=some (.slice V.dA np V.dc)/\w'.cell? ⟨w.heap.size,1,none⟩=some (.string x)) [15] [true,true,true,true,true,true,true,true,true,true,true,false,false,false,false,false] (by kernel_rfl) (by kernel_rfl) rfl (by kernel_rfl) ?_;have hS0:W1.drew.cell? ⟨E.rp,3,none⟩=some (.slice V.dA np V.dc)/\W1.drew.cell? ⟨w.heap.size,1,none⟩=some (.string x):=⟨c3,hx1⟩
  iterate 11(refine jI rfl hS0 (by intro w' hSw;obtain⟨hs1,hs2⟩:=hSw;go_simp;rfl) ?_;simp only[Act.put,sA,sZ,sC])
  refine kD (w':=W1.drew.alloc (.cells #[.int .i64 kind,.string x,.int .i64 (n:Int),.int .i64 ow] 49)) rfl (by go_simp;rfl) ?_ ?_
  ·exact fun _=>⟨by go_simp,by go_simp⟩
  simp only[Act.put,sA,sZ,sC];refine uW rfl (jY _ (.tmp 31) (.tmp 38) _ rfl E.base 49 i0 _ 4 40 Tryz.underlying27 hi0 hz0 hz1 hz2 rfl (.slice V.dA np V.dc) np (r.ds.flatMap kz) rfl (Lf.out.drew.alloc _) ⟨W1.heap.size,0,none⟩ 1 1 (kz ⟨kind,x,(n:Int),ow⟩) rfl rfl (vI _ _ _ _ _ _ (by go_simp) (by go_simp) (by go_simp) (by go_simp)) (by simp[kz,Value.oneCell']) (by simp only[maxLen];omega) (by omega) (by simp;omega) ?_);intro v3 w3 hown3 hgrow3 yK;obtain⟨A3,c3',hv3,-,-⟩:=hown3.shape;subst hv3;have hz3:=hgrow3.size;simp at hz3
  have q1:w3.cell? ⟨E.rp,3,none⟩=some (.slice V.dA np V.dc):=by
   rw[hgrow3.cell_far _ (by simp;omega) (fun e1=>jb.out e1.symm)];go_simp
  have q2:w3.cell? ⟨w.heap.size,1,none⟩=some (.string x):=by
   rw[hgrow3.cell_far _ (by simp;omega) (fun e1=>BG.out e1.symm)];go_simp
  have hB3:=ai.grown (ai.alloc (ai.drew H1.out.blk) (.cells #[.int .i64 kind,.string x,.int .i64 (n:Int),.int .i64 ow] 49)) hgrow3 (fun e1=>jb.out e1.symm);have q5:=hB3.frozen 3;obtain⟨W4,lV⟩:∃W4,w3.setCell ⟨E.rp,3,none⟩ (.slice A3 (np+1) c3')=W4:=⟨_,rfl⟩
  have HR4:Hid (aS E G { r with ds:=r.ds++[⟨kind,x,(n:Int),ow⟩] } { V with dA:=A3,dc:=c3' } W4/\KX E M w W4):=kH (by
   have EY:Below W1.heap.size W1 (W1.drew.alloc (.cells #[.int .i64 kind,.string x,.int .i64 (n:Int),.int .i64 ow] 49)):=((Below.refl _ _).drew).alloc (aaD _) _;have h2:=H1.out.below EY;have hp:=h2.UN ⟨kind,x,(n:Int),ow⟩ (A3:=A3) (c3:=c3') (by rw[tX.out];exact hown3) (by rw[tX.out];exact hgrow3) M;rw[tX.out,lV]at hp
   exact⟨hp.1,(KX.of_below (HB1.out.trans (EY.mono HB1.out.size))).trans hp.2 (fun g hg=>.inl hg)⟩)
  clear hB3 hown3 hgrow3 yK;refine⟨fun _=>⟨q1,q2⟩,?_⟩;iterate 2(simp only[Act.put,sA,sZ,sC];refine kD (w':=w3) rfl (by go_simp;rfl) (fun _=>⟨q1,q2⟩) ?_)
  simp only[Act.put,sA,sZ,sC];refine kG (w':=w3.setCell ⟨E.rp,3,none⟩ (.slice A3 (np+1) c3')) rfl (by go_simp) (by simp) ?_;refine ll ?_;simp only[Act.put];rw[lV];obtain⟨bu,ou,hA,hbu,uB,hfu,hput⟩:=HR4.out.1.JB n (by rw[wV.out];exact hn) M;obtain⟨u0,uB⟩:=uB;have c4:W4.cell? ⟨E.rp,4,none⟩=some (.slice E.uA nu E.uc):=by have:=HR4.out.1.blk.cell 4;rw[wV.out]at this;exact this
  rw[hA]at c4;have hl4:=HR4.out.1.blk.lt
  have HR:Hid (∃V',aS E G q V' (W4.setCell ⟨bu,ou+n,none⟩ (.int .i64 (n:Int)))/\KX E M w (W4.setCell ⟨bu,ou+n,none⟩ (.int .i64 (n:Int)))):=kH (by
   obtain⟨h5,h6⟩:=hput (n:Int);rw[HP.out]
   exact⟨_,h5,HR4.out.2.trans h6 (fun g hg=>.inl hg)⟩)
  clear hput lV;go_wp2_with fail
  go_ret
  exact⟨rfl,HR.out⟩
theorem gM(t:aa)(A:Option Addr)(c:Nat):∃(k:Int) (x:ByteArray) (a z:Int) (m:Nat),t.kind=k/\t.text=x/\t.at_=a/\t.end_=z/\t.kids.length=m/\aX t A c= .agg #[.int .i64 k,.string x,.int .i64 a,.int .i64 z,.slice A m c]:=⟨_,_,_,_,_,rfl,rfl,rfl,rfl,rfl,rfl⟩
theorem zZ(E:RC)(G:aW)(r:RS)(V:RV)(w:World)(h:aS E G r V w)(hN:r.ds.length<=1000000)(hP:r.aO.length<=1000000)(hbase:E.base<=w.heap.size)(kind:Int)(n:Nat)(hn:n<r.uses.length)(t:aa)(A:Option Addr)(c:Nat)(al:Bool)(M:Nat->Prop):
 Calls Tryz.prog 147 #[.pointer (some ⟨E.rp,0,none⟩),.int .i64 kind,.int .i64 (n:Int),aX t A c,.bool al] w fun e w'=>e= .returned (.bool (!al))/\∃V',aS E G (aQ r kind n t al) V' w'/\KX E M w w':=by
 cases al
 ·exact RX E G r V w h hN hbase kind n hn t A c M
 ·obtain⟨k,x,a,z,m,-,-,-,-,-,hv⟩:=gM t A c
  rw[hv];have hb1:Below w.heap.size w (w.alloc (.cells #[.int .i64 k,.string x,.int .i64 a,.int .i64 z,.slice A m c] 24)):=af _ _;have hs:=Sm E G r V (w.alloc (.cells #[.int .i64 k,.string x,.int .i64 a,.int .i64 z,.slice A m c] 24)) (h.below hb1) hP (aaE hbase hb1.size) 9 n t A c M;rw[hv]at hs;have HB1:=kH hb1;have HS:=kH hs;clear hs hb1 hv h;go_enter Tryz.func147,Tryz.ntmps147
  go_wp2_with fail
  refine HS.out.mono ?_;rintro e w2 ⟨rfl,V2,h2,k2⟩;have HE:Hid (∃V',aS E G (aQ r kind n t true) V' w2/\KX E M w w2):=kH ⟨V2,h2,(KX.of_below HB1.out).trans k2 (fun g hg=>.inl hg)⟩;clear h2 k2 HS HB1;go_wp2_with fail
  go_ret
  exact⟨rfl,HE.out⟩
theorem use_any(E:RC)(G:aW)(r:RS)(V:RV)(w:World)(h:aS E G r V w)(hP:r.aO.length<=1000000)(hbase:E.base<=w.heap.size)(n:Nat)(hn:n<r.uses.length)(t:aa)(A:Option Addr)(c:Nat)(tq:Option Int)(y:Int)(hy:∀k,tq=some k->k=y)(M:Nat->Prop):
 Calls Tryz.prog 149 #[.pointer (some ⟨E.rp,0,none⟩),.int .i64 (n:Int),aX t A c,.int .i64 y,.bool tq.isSome] w fun e w'=>e= .returned (.tuple #[])/\∃V',aS E G (fC r n t tq) V' w'/\KX E M w w':=by
 obtain⟨k,x,a,z,m,-,-,-,-,-,hv⟩:=gM t A c;have hb1:Below w.heap.size w (w.alloc (.cells #[.int .i64 k,.string x,.int .i64 a,.int .i64 z,.slice A m c] 24)):=af _ _
 cases tq with
 | none=>
  have hs:=Sm E G r V (w.alloc (.cells #[.int .i64 k,.string x,.int .i64 a,.int .i64 z,.slice A m c] 24)) (h.below hb1) hP (aaE hbase hb1.size) 8 n t A c M;rw[hv]at hs⊢;have HB1:=kH hb1;have HS:=kH hs;clear hs hb1 hv h;go_enter Tryz.func149,Tryz.ntmps149
  go_wp2_with fail
  refine HS.out.mono ?_;rintro e w2 ⟨rfl,V2,h2,k2⟩;have HE:Hid (∃V',aS E G (fC r n t none) V' w2/\KX E M w w2):=kH ⟨V2,h2,(KX.of_below HB1.out).trans k2 (fun g hg=>.inl hg)⟩;clear h2 k2 HS HB1;go_wp2_with fail
  try simp only[Exit.inBlock,Exit.then]
  refine bodyPost_ret (results_none rfl _ _ _) rfl ?_;exact⟨rfl,HE.out⟩
 | some y'=>
  obtain rfl:y'=y:=hy y' rfl;rw[hv];show Calls Tryz.prog 149 #[.pointer (some ⟨E.rp,0,none⟩),.int .i64 (n:Int),.agg #[.int .i64 k,.string x,.int .i64 a,.int .i64 z,.slice A m c],.int .i64 y',.bool true] w _;obtain⟨W1,hW1⟩:∃W1,w.alloc (.cells #[.int .i64 k,.string x,.int .i64 a,.int .i64 z,.slice A m c] 24)=W1:=⟨_,rfl⟩
  rw[hW1]at hb1;have h1:=h.below hb1;obtain⟨bu,ou,hA,hbu,uB,hfu,hput⟩:=h1.JB n hn M;obtain⟨u0,uB⟩:=uB;obtain⟨nu,hnu⟩:∃q,r.uses.length=q:=⟨_,rfl⟩
  rw[hnu]at hn;have c4:W1.cell? ⟨E.rp,4,none⟩=some (.slice E.uA nu E.uc):=by have:=h1.blk.cell 4;rw[hnu]at this;exact this
  rw[hA]at c4;have hl4:=h1.blk.lt
  have HR:Hid (∃V',aS E G (fC r n t (some y')) V' (W1.setCell ⟨bu,ou+n,none⟩ (.int .i64 y'))/\KX E M w (W1.setCell ⟨bu,ou+n,none⟩ (.int .i64 y'))):=kH (by
   obtain⟨h5,h6⟩:=hput y'
   exact⟨_,h5,(KX.of_below hb1).trans h6 (fun g hg=>.inl hg)⟩)
  clear hput hv h h1 hnu hb1;go_enter Tryz.func149,Tryz.ntmps149
  go_wp2_with (rw[hW1])
  go_end0
  exact⟨rfl,HR.out⟩
theorem xB(l:jr)(x:ByteArray)(n:Int):o5 (jF l) x (.int .i64 n)=jF (cO l x n):=Hu (Value.int .i64) x n l
theorem aS.nX{E:RC}{G:aW}{r:RS}{V:RV}{w:World}(h:aS E G r V w):∀g cs,E.uA.map (·.block)=some g->w.heap[g]?≠some (.cells cs 95 (0,0)):=by
 intro g cs hg hb
 have hv:(Value.slice E.uA r.uses.length E.uc).ownBlock=some g:=by
  cases hA:E.uA with
  | none=>rw[hA]at hg;cases hg
  | some p=>rw[hA]at hg;simpa [Value.ownBlock] using hg
 obtain⟨cur,ho⟩:=h.us.obj g hv;rw[hb]at ho;simp at ho
theorem aS.SA{E:RC}{G:aW}{r:RS}{V:RV}{w:World}(h:aS E G r V w){g:Nat}{cs:Array Value}(hb:ai w g 24 cs):E.uA.map (·.block)≠some g:=by
 intro hg
 have hv:(Value.slice E.uA r.uses.length E.uc).ownBlock=some g:=by
  cases hA:E.uA with
  | none=>rw[hA]at hg;cases hg
  | some p=>rw[hA]at hg;simpa [Value.ownBlock] using hg
 exact h.us.eu hb (by decide) hv
structure Cn (E:RC) (ms:List Nat):Prop where
 nodup:ms.Nodup
 apart:∀m∈ms,m≠E.g/\m≠E.f/\m≠E.k/\m≠E.vi
theorem aS.nY{E:RC}{G:aW}{r:RS}{V:RV}{w w':World}{m:Nat}(h:aS E G r V w)(hs:az (fun g=>g=m) w w')(hm:m≠E.g/\m≠E.f/\m≠E.k/\m≠E.vi)(ho:∃es ck,w.heap[m]? =some (.map es ck)):aS E G r V w':=by
 obtain⟨es,ck,ho⟩:=ho
 have hb:∀{g:Nat}{t:TypeId}{cs:Array Value},ai w g t cs->g≠m:=fun hb e=>by
  subst e;have:w.heap[_]? =some (Obj.cells _ _ (0,0)):=hb;rw[ho]at this;cases this
 have how:∀{e size v n xs},aL w E.base e size v n xs->aL w' E.base e size v n xs:=fun ha=>ha.since hs (fun g hg e=>by
  subst e;obtain⟨cur,hc⟩:=ha.obj _ hg;rw[ho]at hc
  cases hc)
 refine⟨h.blk.since hs (hb h.blk),h.gl.since hs (fun e=>hm.1 e.symm),h.fl.since hs (fun e=>hm.2.1 e.symm),h.kn.since hs (fun e=>hm.2.2.1 e.symm),h.vi.since hs (fun e=>hm.2.2.2 e.symm),?_,how h.ds,how h.us,how h.ps,h.low,h.apart⟩;refine eX.of_block h.bQ fun g cur hg _=>hs.block g (aaG.1 hg).1 fun e=>?_
 subst e;rw[ho]at hg;cases hg
theorem aZ.isMap{K:Type}[DecidableEq K]{KK:om K}{w:World}{r:Nat}{m:List (K×Value)}(h:aZ KK w r m):∃es ck,w.heap[r]? =some (.map es ck):=by
 obtain⟨es,ck,h1,_⟩:=h;exact⟨es,ck,h1⟩
theorem KX.nY{E:RC}{w w':World}{m:Nat}{M:Nat->Prop}(hs:az (fun g=>g=m) w w')(hm:M m)(hb:E.base<=m)(ho:∃es ck,w.heap[m]? =some (.map es ck)):KX E M w w':=
 az.mono hs fun g e=>by subst e;exact⟨hb,.inr ⟨ho,hm⟩⟩
theorem NI(E:RC)(G:aW)(r:RS)(V:RV)(w:World)(h:aS E G r V w)(hN:r.ds.length<=1000000)(hP:r.aO.length<=1000000)(hbase:E.base<=w.heap.size)(kind:Int)(n:Nat)(hn:n<r.uses.length)(t:aa)(A:Option Addr)(c:Nat)
 (l:jr) (s:aK) (p:Option Addr) (m:Nat) (ms:List Nat) (hs:bK w E.base p (l::s) (m::ms)) (hsep:Cn E (m::ms)):
 Calls Tryz.prog 148 #[.pointer (some ⟨E.rp,0,none⟩),.int .i64 kind,.int .i64 (n:Int),aX t A c,.pointer p] w fun e w'=>e= .returned (.tuple #[])/\∃V',aS E G (aA G r kind n t (l::s)).1 V' w'/\bK w' E.base p (aA G r kind n t (l::s)).2 (m::ms)/\KX E (fun g=>g=m) w w':=by
 obtain⟨k,x,a,z,mk,-,hx,-,-,-,hv⟩:=gM t A c;obtain⟨W1,hW1⟩:∃W1,w.alloc (.cells #[.int .i64 k,.string x,.int .i64 a,.int .i64 z,.slice A mk c] 24)=W1:=⟨_,rfl⟩
 have hb1:Below w.heap.size w W1:=by rw[<- hW1];exact af _ _
 have hT1:ai W1 w.heap.size 24 #[.int .i64 k,.string x,.int .i64 a,.int .i64 z,.slice A mk c]:=by rw[<- hW1];exact ai.new w _ _
 have h1:=h.below hb1;have hs1:=hs.below hb1;have hfind:=Jc E.base x W1 (l::s) p (m::ms) hs1;have hlk:=fun q=>pg (W1.drewN q) E.g G.globals (aZ.drewN h1.gl q) x
 have hbs1:E.base<=W1.heap.size:=aaE hbase hb1.size;have hdec:=fun q al=>zZ E G r V (W1.drewN q) (h1.below (aY (Below.refl _ _) q)) hN hP hbs1 kind n hn t A c al (fun _=>False)
 rw[hv]at hdec⊢;obtain⟨b,m0,p',ms0,hp,hms,hb0,hm0,hsb,hsm,hst⟩:=hs1;simp only[List.cons.injEq]at hms;obtain⟨rfl,rfl⟩:=hms;subst hp
 have hvar:aA G r kind n t (l::s)=if (bV (l::s) x).isSome || (bJ G.globals x).isSome then(oI r 9 n t,l::s) else(iR r kind n t,cO l x (n:Int)::s):=by
  unfold aA;rw[hx];rfl
 rw[hvar];have hds:aQ r kind n t true=oI r 9 n t:=rfl;have hdd:aQ r kind n t false=iR r kind n t:=rfl;have c0:=h1.blk.cell 0;have hlr:=h1.blk.lt;have hx0:=hT1.cell 0;have hx1:=hT1.cell 1;have hx2:=hT1.cell 2;have hx3:=hT1.cell 3;have hx4:=hT1.cell 4;have hlt:=hT1.lt;generalize hfo:bV (l::s) x=fo at hfind⊢
 obtain⟨go,hgo⟩:∃q,bJ G.globals x=q:=⟨_,rfl⟩
 rw[hgo]at hlk⊢;have H1:=kH h1;have nV:Hid (bK W1 E.base (some ⟨b,0,none⟩) (l::s) (m::ms)):=kH ⟨b,m,p',ms,rfl,rfl,hb0,hm0,hsb,hsm,hst⟩;have HT1:=kH hT1;have HB1:=kH hb1;have HF:=kH hfind;have HSEP:=kH hsep;clear h hs hvar hfo hgo hx hv h1 hT1 hb1 hst hfind hsb hsm hsep
 have hsay:Hid (∀q w2,(∃V',aS E G (oI r 9 n t) V' w2/\KX E (fun _=>False) (W1.drewN q) w2)->∃V',aS E G (oI r 9 n t) V' w2/\bK w2 E.base (some ⟨b,0,none⟩) (l::s) (m::ms)/\KX E (fun g=>g=m) w w2):=kH (by
  rintro q w2 ⟨V2,h2,k2⟩;have hd:Below W1.heap.size W1 (W1.drewN q):=aY (Below.refl _ _) q;have k1:KX E (fun _=>False) W1 w2:=(KX.of_below (M:=fun _=>False) hd).trans k2 (fun g hg=>hg.elim)
  exact⟨V2,h2,bK.kx k1 H1.out.nX nV.out (fun _ _ h=>h),(KX.of_below HB1.out).trans k1 (fun g hg=>hg.elim)⟩)
 have hsd:=fun q=>hdec q true
 have Vz:=fun q=>hdec q false
 rw[hds]at hsd;rw[hdd]at Vz;simp only[Bool.not_true,Bool.not_false]at hsd Vz;have HSD:=kH hsd;have HDD:=kH Vz;clear hsd Vz hdec
 cases fo with
 | some y=>
  simp only[Option.isSome_some,Bool.true_or,if_true]at HF⊢;go_enter Tryz.func148,Tryz.ntmps148
  go_wp2_with (rw[hW1])
  refine HF.out.mono ?_;rintro e w2 ⟨rfl,hw2⟩;obtain rfl:W1=w2:=hw2.symm;go_wp2_with fail
  go_quiet (fail)
  go_wp2_with fail
  refine(HSD.out _).mono ?_;rintro e w3 ⟨rfl,h3⟩;have HE:=kH (hsay.out _ w3 h3);clear h3;go_wp2_with fail
  go_end0
  exact⟨rfl,HE.out⟩
 | none=>
  cases go with
  | some y=>
   simp only[Option.isSome_some,Option.isSome_none,Bool.or_true,if_true]at HF hlk⊢;go_enter Tryz.func148,Tryz.ntmps148
   go_wp2_with (rw[hW1])
   refine HF.out.mono ?_;rintro e w2 ⟨rfl,hw2⟩;obtain rfl:W1=w2:=hw2.symm;go_wp2_with fail
   go_quiet (fail)
   go_wp2_with fail
   refine(HSD.out _).mono ?_;rintro e w3 ⟨rfl,h3⟩;have HE:=kH (hsay.out _ w3 h3);clear h3;go_wp2_with fail
   go_end0
   exact⟨rfl,HE.out⟩
  | none=>
   simp only[Option.isSome_none,Bool.or_false,Bool.false_eq_true,if_false]at HF hlk⊢;go_enter Tryz.func148,Tryz.ntmps148
   go_wp2_with (rw[hW1])
   refine HF.out.mono ?_;rintro e w2 ⟨rfl,hw2⟩;obtain rfl:W1=w2:=hw2.symm;go_wp2_with fail
   go_quiet (fail)
   go_wp2_with fail
   refine(HDD.out _).mono ?_;rintro e w3 ⟨rfl,V3,h3,k3⟩;have k1:KX E (fun _=>False) W1 w3:=(KX.of_below (M:=fun _=>False) (aY (Below.refl W1.heap.size W1) _)).trans k3 (fun g hg=>hg.elim);have hs3:=bK.kx k1 H1.out.nX nV.out (fun _ _ h=>h);have j3:=k1.blk HT1.out (by decide) (by decide) (by decide) (H1.out.SA HT1.out);have K1:=kH k1;have H3:=kH h3;obtain⟨b2,m2,p2,vY,hp2,wE,hb2,hm2,Vn,hsm3,hst3⟩:=hs3;simp only[List.cons.injEq]at wE;obtain⟨rfl,rfl⟩:=wE;simp only[aaI,Addr.mk.injEq,and_true]at hp2;subst hp2;have d1:=Vn.cell 1;have e1:=j3.cell 1;have hl3:=Vn.lt;have hl4:=j3.lt;have D8:=kH Vn;have La:=kH hsm3;have HST:=kH hst3;clear j3 k1 k3 h3 Vn hsm3 hst3;go_wp2_with fail
   refine fT (fun w'=>w'.cell? ⟨b,1,none⟩=some (.map (some m))/\w'.cell? ⟨w.heap.size,1,none⟩=some (.string x)) [7] [true,true,true,true,true,true,true,false] (by kernel_rfl) (by kernel_rfl) rfl (by kernel_rfl) ?_;have hS0:w3.drew.cell? ⟨b,1,none⟩=some (.map (some m))/\w3.drew.cell? ⟨w.heap.size,1,none⟩=some (.string x):=⟨d1,e1⟩
   iterate 7(refine jI rfl hS0 (by intro w' hSw;obtain⟨hs1,hs2⟩:=hSw;go_simp;rfl) ?_;simp only[Act.put,sA,sZ,sC])
   obtain⟨w4,hrun,gW,hg4,Xn⟩:=fe (P:=Tryz.prog) (KK:=jg) (t:=70) (kt:=9) (et:=3) Tryz.underlying70 Tryz.underlying9 (La.out.drew) x (.int .i64 (n:Int));change (Instr.mapUpdate 70 (.map (some m)) (Value.string x) (.int .i64 (n:Int))).run Tryz.prog w3.drew=_ at hrun;have hs4:az (fun g=>g=m) w3 w4:=((az.refl (fun g=>g=m) w3).drew).grown hg4 (fun k hk=>by cases hk;exact .inl rfl)
   have HE:Hid (∃V',aS E G (iR r kind n t) V' w4/\bK w4 E.base (some ⟨b,0,none⟩) (cO l x (n:Int)::s) (m::ms)/\KX E (fun g=>g=m) w w4):=kH (by
    rw[xB]at gW;have PY:=La.out.isMap;have Vm:=HSEP.out.apart m (by simp);have hnd:=List.nodup_cons.1 HSEP.out.nodup;have km:KX E (fun g=>g=m) w3 w4:=KX.nY hs4 rfl hm2 PY;refine⟨V3,H3.out.nY hs4 Vm PY,⟨b,m,p2,ms,rfl,rfl,hb2,hm2,?_,gW,?_⟩,(KX.of_below HB1.out).trans ((K1.out.mono (M':=fun g=>g=m) (fun _ h=>h.elim)).trans km (fun g hg=>.inl hg)) (fun g hg=>.inl hg)⟩
    ·refine D8.out.since hs4 (fun e=>?_)
     obtain⟨es,ck,ho⟩:=PY;subst e;have:w3.heap[b]? =some (Obj.cells _ _ (0,0)):=D8.out;rw[ho]at this;cases this
    ·exact bK.kx km H3.out.nX HST.out (fun g hg e=>hnd.1 (by rw[<- e];exact hg)))
   clear gW hg4 Xn hs4;refine kG (w':=w4) rfl (by simp[execOp,Act.eval,hrun,Result.andThen]) (by simp) ?_;refine ll ?_;simp only[Act.put];go_wp2_with fail
   go_end0
   exact⟨rfl,HE.out⟩
end Go.Proofs.YtoepemlnlpamlaaGreat
