/- Collect agrees with the reference. Part 3: Nam4 Nam5 Nam6 Tr4 Visit Nam7 Ord1 Ord2. -/
import Derived.RangeFuncNested
import Derived.RangeFuncBound
import Derived.Test.YtoepemlnlpamlaaGreatColl02
set_option maxRecDepth 100000
set_option maxHeartbeats 4000000
namespace Go.Proofs.YtoepemlnlpamlaaGreat
open Go.RowKit
theorem Ha:(Tryz.prog.info? 49).map (fun i=>(i.zero,i.size,i.bytes))=some (some (.agg #[.int .i64 0,.string ⟨#[]⟩,.int .i64 0,.int .i64 0]),4,40):=by kernel_rfl
theorem aQ.Vb{E:RC}{G:bf}{r:RS}{V:RV}{w C:World}(h:aQ E G r V w)(p:Dc){A3:Option Addr}{c3:Nat}
 (Q:aG C E.base 49 4 (.slice A3 (r.ds.length+1) c3) (r.ds.length+1) (r.ds.flatMap bQ++bQ p)) (B:w.grownBy C (Value.slice V.dA r.ds.length V.dc).ownBlock) (M:Nat->Prop):
 aQ E G { r with ds:=r.ds++[p] } { V with dA:=A3,dc:=c3 } (C.setCell ⟨E.rp,3,none⟩ (.slice A3 (r.ds.length+1) c3))/\KX E M w (C.setCell ⟨E.rp,3,none⟩ (.slice A3 (r.ds.length+1) c3)):=by
 have L:ak (fun g=>g=E.rp\/(Value.slice V.dA r.ds.length V.dc).ownBlock=some g) w (C.setCell ⟨E.rp,3,none⟩ (.slice A3 (r.ds.length+1) c3)):=
  ((ak.refl _ w).grown B (fun g B=>.inl (.inr B))).setCell (.inl (.inl rfl)) _
 have O:(Value.slice V.dA r.ds.length V.dc).ownBlock≠some E.rp:=h.ds.bB h.blk (by decide);have H:ah C E.rp 75 _:=h.blk.grown B (Ne.symm O)
 have J:∀{K:Type} [DecidableEq K] {KK:nW K}{q:Nat}{m:List (K×Value)},aY KK w q m->aY KK (C.setCell ⟨E.rp,3,none⟩ (.slice A3 (r.ds.length+1) c3)) q m:=fun D=>D.since L (fun A=>by
  rcases A with A|A
  ·exact D.rX h.blk A
  exact D.iM h.ds A)
 have I:∀{e size v n xs},aG w E.base e size v n xs->e≠75->e≠49->aG (C.setCell ⟨E.rp,3,none⟩ (.slice A3 (r.ds.length+1) c3)) E.base e size v n xs:=fun D A S=>D.since L (fun g B F=>by
  rcases F with F|F
  ·exact D.bB h.blk A (by rw[B,F])
  exact D.apart h.ds S g B F)
 refine⟨⟨?_,J h.gl,J h.fl,J h.kn,J h.vi,?_,?_,I h.us (by decide) (by decide),I h.ps (by decide) (by decide),h.low,h.apart⟩,?_⟩
 ·have:=H.dB 3 (.slice A3 (r.ds.length+1) c3)
  simpa using this
 ·refine fJ.of_block h.aP fun g cur B _=>L.block g (acd.1 B).1 fun A=>?_
  rcases A with A|A
  ·subst A
   have T:w.heap[E.rp]? =some (.cells _ 75 (0,0)):=h.blk;rw[T]at B;simp at B
  obtain⟨P,N⟩:=h.ds.obj g A;rw[N]at B;simp at B
 ·have R:(Value.slice A3 (r.ds.length+1) c3).ownBlock≠some E.rp:=Q.bB H (by decide)
  have:=Q.setCell (p:=⟨E.rp,3,none⟩) R (.slice A3 (r.ds.length+1) c3);simpa using this
 refine ak.mono L fun g A=>?_
 rcases A with rfl|A
 ·exact⟨h.low.1,.inl ⟨_,_,_,h.blk,.inl rfl⟩⟩
 obtain⟨cur,U⟩:=h.ds.obj g A;exact⟨(h.ds.lt g A).1,.inl ⟨_,_,_,U,.inr (.inr (.inl rfl))⟩⟩
theorem aQ.yH{E:RC}{G:bf}{r:RS}{V:RV}{w:World}(h:aQ E G r V w)(i:Nat)(Y:i<r.uses.length)(M:Nat->Prop):
 ∃b A,E.uA=some ⟨b,A,none⟩/\b<w.heap.size/\(∃u,w.cell? ⟨b,A+i,none⟩=some (.int .i64 u))/\w.frozen? ⟨b,A+i,none⟩=false /\
  ∀y:Int,aQ E G { r with uses:=r.uses.set i y } V (w.setCell ⟨b,A+i,none⟩ (.int .i64 y))/\KX E M w (w.setCell ⟨b,A+i,none⟩ (.int .i64 y)):=by
 obtain⟨b,A,x,v,-,-,Q,R,O⟩:=h.us.form (by omega);have C:E.uA=some ⟨b,A,none⟩:=by injection v
 have Z:=h.us.1;refine⟨b,A,C,R,⟨_,O i (.int .i64 r.uses[i]) (by simp[bL,Y])⟩,?_,fun y=>?_⟩
 ·obtain⟨cur,N⟩:=h.us.obj b (by rw[C];rfl)
  simp[World.frozen?,N]
 have B:(Value.slice E.uA r.uses.length E.uc).ownBlock=some b:=by rw[C];rfl
 have H:ak (fun g=>g=b) w (w.setCell ⟨b,A+i,none⟩ (.int .i64 y)):=ak.setCell (S:=fun g=>g=b) (ak.refl _ w) (p:=⟨b,A+i,none⟩) (.inl rfl) _;have L:b≠E.rp:=fun e=>h.us.bB h.blk (by decide) (by rw[B,e])
 have I:∀{K:Type} [DecidableEq K] {KK:nW K}{q:Nat}{m:List (K×Value)},aY KK w q m->aY KK (w.setCell ⟨b,A+i,none⟩ (.int .i64 y)) q m:=fun X=>X.since H (fun D=>X.iM h.us (by rw[B,D]))
 have P:(r.uses.set i y).length=r.uses.length:=List.length_set;refine⟨⟨?_,I h.gl,I h.fl,I h.kn,I h.vi,?_,h.ds.since H (fun g F J=>h.ds.apart h.us (by decide) g F (by rw[B,J])),?_,h.ps.since H (fun g F J=>h.ps.apart h.us (by decide) g F (by rw[B,J])),h.low,h.apart⟩,?_⟩
 ·have:=h.blk.far (p:=⟨b,A+i,none⟩) (Ne.symm L) (.int .i64 y)
  simpa [P] using this
 ·have U:=h.aP
  simp only[P];refine fJ.of_block U fun g cur F T=>H.block g (acd.1 F).1 fun D=>T (by rw[B,D])
 ·have W:=h.us
  rw[C]at W;have:=W.set1 i Y (.int .i64 y);simp only[P,C];have z:bL (r.uses.set i y)=(bL r.uses).set i (.int .i64 y):=by simp[bL,List.map_set]
  rw[z];exact this
 refine ak.mono H fun g D=>?_
 subst D;obtain⟨cur,N⟩:=h.us.obj g B;exact⟨Q,.inl ⟨_,_,_,N,.inr (.inr (.inr (by rw[C];rfl)))⟩⟩
theorem Te(E:RC)(G:bf)(r:RS)(V:RV)(w:World)(h:aQ E G r V w)(hN:r.ds.length<=1000000)(a1:E.base<=w.heap.size)(kind:Int)(n:Nat)(hn:n<r.uses.length)(t:ae)(A:Option Addr)(c:Nat)(M:Nat->Prop):
 Calls Tryz.prog 147 #[.pointer (some ⟨E.rp,0,none⟩),.int .i64 kind,.int .i64 (n:Int),aO t A c,.bool false] w fun e w'=>e= .returned (.bool true)/\∃V',aQ E G (kK r kind n t) V' w'/\KX E M w w':=by
 obtain⟨i0,a8,al,an,ao⟩:=info_parts Ha;obtain⟨l, Q⟩:=ag ((if kind=0\/kind=2 then(-1:Int) else r.owner));have HP:Hid (kK r kind n t= { r with ds:=r.ds++[⟨kind,t.text,n,l⟩],uses:=r.uses.set n (n:Int) }):=kH (by rw[<- Q];rfl);unfold aO;obtain⟨q, hq⟩:=ag (kK r kind n t);rw[hq]at HP⊢;obtain⟨k, d⟩:=ag t.kind;obtain⟨x, ad⟩:=ag t.text;obtain⟨a, ar⟩:=ag t.at_;obtain⟨z,a7⟩:∃q,t.end_=q:=⟨_,rfl⟩
 obtain⟨m, ax⟩:=ag t.kids.length;rw[d,ad,ar,a7,ax];rw[ad]at HP;obtain⟨K, qo⟩:=ag r.ds.length;obtain⟨nu, aa⟩:=ag r.uses.length;obtain⟨ro, ab⟩:=ag r.owner;rw[qo]at hN;rw[aa]at hn;rw[ab]at Q;have H:=kH h;have u:=kH qo;have BJ:=kH aa;have aq:=kH ab;clear hq d ad ar a7 ax h qo aa ab;have L:∃I,I=w.alloc (.cells #[.int .i64 k,.string x,.int .i64 a,.int .i64 z,.slice A m c] 24):=⟨_,rfl⟩
 obtain⟨I,L⟩:=L;have f:Below w.heap.size w I:=by rw[L];exact ai _ _
 have j:ah I w.heap.size 24 #[.int .i64 k,.string x,.int .i64 a,.int .i64 z,.slice A m c]:=by rw[L];exact ah.new w _ _
 have h1:=H.out.below f;have c3:I.cell? ⟨E.rp,3,none⟩=some (.slice V.dA K V.dc):=by have:=h1.blk.cell 3;rw[u.out]at this;exact this
 have c8:I.cell? ⟨E.rp,8,none⟩=some (.int .i64 ro):=by have:=h1.blk.cell 8;rw[aq.out]at this;exact this
 have b3:=h1.blk.lt;have af:=j.cell 1;have b4:=j.lt;have X:=h1.ds;rw[u.out]at X;have qx:=kH X;have H1:=kH h1;have S:=kH f;have ay:(Value.slice V.dA K V.dc).ownBlock≠some E.rp:=X.bB h1.blk (by decide);have a6:(Value.slice V.dA K V.dc).ownBlock≠some w.heap.size:=X.bB j (by decide);have fw:=kH ay;have yB:=kH a6;have b2:E.base<=I.heap.size:=aca a1 f.size;have b5:=H.out.blk.lt;have b1:w.cell? ⟨E.rp,8,none⟩=some (.int .i64 ro):=by have:=H.out.blk.cell 8;rw[aq.out]at this;exact this
 clear X h1 j f ay a6;rcases(show kind=0\/kind=2\/(kind≠0/\kind≠2) by omega) with rfl|rfl| ⟨d,hk2⟩
 ·have QJ:l= -1:=by exact Q.symm.trans (by simp)
  subst QJ;clear Q;go_in
  go_wp2_with fail
  rw[<- L];clear L;refine dF (fun w'=>w'.cell? ⟨E.rp,3,none⟩=some (.slice V.dA K V.dc)/\w'.cell? ⟨w.heap.size,1,none⟩=some (.string x)) [15] [true,true,true,true,true,true,true,true,true,true,true,false,false,false,false,false] (by kernel_rfl) (by kernel_rfl) rfl (by kernel_rfl) ?_;have T:I.drew.cell? ⟨E.rp,3,none⟩=some (.slice V.dA K V.dc)/\I.drew.cell? ⟨w.heap.size,1,none⟩=some (.string x):=⟨c3,af⟩
  iterate 11(refine eD rfl T (by intro w' U;obtain⟨az,aE⟩:=U;go_simp;rfl) ?_;simp only[Act.put,sA,sZ,sC])
  refine eu (w':=I.drew.alloc (.cells #[.int .i64 (0:Int),.string x,.int .i64 (n:Int),.int .i64 (-1)] 49)) rfl (by go_simp;rfl) ?_ ?_
  ·exact fun _=>⟨by go_simp,by go_simp⟩
  simp only[Act.put,sA,sZ,sC];refine jR rfl (fG _ (.tmp 31) (.tmp 38) _ rfl E.base 49 i0 _ 4 40 Tryz.underlying27 a8 al an ao rfl (.slice V.dA K V.dc) K (r.ds.flatMap bQ) rfl (qx.out.drew.alloc _) ⟨I.heap.size,0,none⟩ 1 1 (bQ ⟨(0:Int),x,(n:Int),(-1)⟩) rfl rfl (y5 _ _ _ _ _ _ (by go_simp) (by go_simp) (by go_simp) (by go_simp)) (by simp[bQ,Value.oneCell']) (by simp only[maxLen];omega) (by omega) (by simp;omega) ?_);intro v3 R C B rF;obtain⟨A3,F,Z,-,-⟩:=C.shape;subst Z;have y:=B.size;simp at y
  have q1:R.cell? ⟨E.rp,3,none⟩=some (.slice V.dA K V.dc):=by
   rw[B.cell_far _ (by simp;omega) (fun O=>fw.out O.symm)];go_simp
  have q2:R.cell? ⟨w.heap.size,1,none⟩=some (.string x):=by
   rw[B.cell_far _ (by simp;omega) (fun O=>yB.out O.symm)];go_simp
  have P:=ah.grown (ah.alloc (ah.drew H1.out.blk) (.cells #[.int .i64 (0:Int),.string x,.int .i64 (n:Int),.int .i64 (-1)] 49)) B (fun O=>fw.out O.symm);have q5:=P.frozen 3;obtain⟨N, v⟩:=ag (R.setCell ⟨E.rp,3,none⟩ (.slice A3 (K+1) F))
  have D:Hid (aQ E G { r with ds:=r.ds++[⟨(0:Int),x,(n:Int),(-1)⟩] } { V with dA:=A3,dc:=F } N/\KX E M w N):=kH (by
   have zg:Below I.heap.size I (I.drew.alloc (.cells #[.int .i64 (0:Int),.string x,.int .i64 (n:Int),.int .i64 (-1)] 49)):=((Below.refl _ _).drew).alloc (ab9 _) _;have h2:=H1.out.below zg;have Y:=h2.Vb ⟨(0:Int),x,(n:Int),(-1)⟩ (A3:=A3) (c3:=F) (by rw[u.out];exact C) (by rw[u.out];exact B) M;rw[u.out,v]at Y
   exact⟨Y.1,(KX.of_below (S.out.trans (zg.mono S.out.size))).trans Y.2 (fun g W=>.inl W)⟩)
  clear P C B rF;refine⟨fun _=>⟨q1,q2⟩,?_⟩;iterate 2(simp only[Act.put,sA,sZ,sC];refine eu (w':=R) rfl (by go_simp;rfl) (fun _=>⟨q1,q2⟩) ?_)
  simp only[Act.put,sA,sZ,sC];refine gH (w':=R.setCell ⟨E.rp,3,none⟩ (.slice A3 (K+1) F)) rfl (by go_simp) (by simp) ?_;refine gp ?_;simp only[Act.put];rw[v];obtain⟨b,ou,hA,au,iR,av,J⟩:=D.out.1.yH n (by rw[BJ.out];exact hn) M;obtain⟨u0,iR⟩:=iR;have c4:N.cell? ⟨E.rp,4,none⟩=some (.slice E.uA nu E.uc):=by have:=D.out.1.blk.cell 4;rw[BJ.out]at this;exact this
  rw[hA]at c4;have aw:=D.out.1.blk.lt
  have HR:Hid (∃V',aQ E G q V' (N.setCell ⟨b,ou+n,none⟩ (.int .i64 (n:Int)))/\KX E M w (N.setCell ⟨b,ou+n,none⟩ (.int .i64 (n:Int)))):=kH (by
   obtain⟨h5,h6⟩:=J (n:Int);rw[HP.out]
   exact⟨_,h5,D.out.2.trans h6 (fun g W=>.inl W)⟩)
  clear J v;go_wp2_with fail
  go_ret
  exact⟨rfl,HR.out⟩
 ·have QJ:l= -1:=by exact Q.symm.trans (by simp)
  subst QJ;clear Q;go_in
  go_wp2_with fail
  rw[<- L];clear L;refine dF (fun w'=>w'.cell? ⟨E.rp,3,none⟩=some (.slice V.dA K V.dc)/\w'.cell? ⟨w.heap.size,1,none⟩=some (.string x)) [15] [true,true,true,true,true,true,true,true,true,true,true,false,false,false,false,false] (by kernel_rfl) (by kernel_rfl) rfl (by kernel_rfl) ?_;have T:I.drew.cell? ⟨E.rp,3,none⟩=some (.slice V.dA K V.dc)/\I.drew.cell? ⟨w.heap.size,1,none⟩=some (.string x):=⟨c3,af⟩
  iterate 11(refine eD rfl T (by intro w' U;obtain⟨az,aE⟩:=U;go_simp;rfl) ?_;simp only[Act.put,sA,sZ,sC])
  refine eu (w':=I.drew.alloc (.cells #[.int .i64 (2:Int),.string x,.int .i64 (n:Int),.int .i64 (-1)] 49)) rfl (by go_simp;rfl) ?_ ?_
  ·exact fun _=>⟨by go_simp,by go_simp⟩
  simp only[Act.put,sA,sZ,sC];refine jR rfl (fG _ (.tmp 31) (.tmp 38) _ rfl E.base 49 i0 _ 4 40 Tryz.underlying27 a8 al an ao rfl (.slice V.dA K V.dc) K (r.ds.flatMap bQ) rfl (qx.out.drew.alloc _) ⟨I.heap.size,0,none⟩ 1 1 (bQ ⟨(2:Int),x,(n:Int),(-1)⟩) rfl rfl (y5 _ _ _ _ _ _ (by go_simp) (by go_simp) (by go_simp) (by go_simp)) (by simp[bQ,Value.oneCell']) (by simp only[maxLen];omega) (by omega) (by simp;omega) ?_);intro v3 R C B rF;obtain⟨A3,F,Z,-,-⟩:=C.shape;subst Z;have y:=B.size;simp at y
  have q1:R.cell? ⟨E.rp,3,none⟩=some (.slice V.dA K V.dc):=by
   rw[B.cell_far _ (by simp;omega) (fun O=>fw.out O.symm)];go_simp
  have q2:R.cell? ⟨w.heap.size,1,none⟩=some (.string x):=by
   rw[B.cell_far _ (by simp;omega) (fun O=>yB.out O.symm)];go_simp
  have P:=ah.grown (ah.alloc (ah.drew H1.out.blk) (.cells #[.int .i64 (2:Int),.string x,.int .i64 (n:Int),.int .i64 (-1)] 49)) B (fun O=>fw.out O.symm);have q5:=P.frozen 3;obtain⟨N, v⟩:=ag (R.setCell ⟨E.rp,3,none⟩ (.slice A3 (K+1) F))
  have D:Hid (aQ E G { r with ds:=r.ds++[⟨(2:Int),x,(n:Int),(-1)⟩] } { V with dA:=A3,dc:=F } N/\KX E M w N):=kH (by
   have zg:Below I.heap.size I (I.drew.alloc (.cells #[.int .i64 (2:Int),.string x,.int .i64 (n:Int),.int .i64 (-1)] 49)):=((Below.refl _ _).drew).alloc (ab9 _) _;have h2:=H1.out.below zg;have Y:=h2.Vb ⟨(2:Int),x,(n:Int),(-1)⟩ (A3:=A3) (c3:=F) (by rw[u.out];exact C) (by rw[u.out];exact B) M;rw[u.out,v]at Y
   exact⟨Y.1,(KX.of_below (S.out.trans (zg.mono S.out.size))).trans Y.2 (fun g W=>.inl W)⟩)
  clear P C B rF;refine⟨fun _=>⟨q1,q2⟩,?_⟩;iterate 2(simp only[Act.put,sA,sZ,sC];refine eu (w':=R) rfl (by go_simp;rfl) (fun _=>⟨q1,q2⟩) ?_)
  simp only[Act.put,sA,sZ,sC];refine gH (w':=R.setCell ⟨E.rp,3,none⟩ (.slice A3 (K+1) F)) rfl (by go_simp) (by simp) ?_;refine gp ?_;simp only[Act.put];rw[v];obtain⟨b,ou,hA,au,iR,av,J⟩:=D.out.1.yH n (by rw[BJ.out];exact hn) M;obtain⟨u0,iR⟩:=iR;have c4:N.cell? ⟨E.rp,4,none⟩=some (.slice E.uA nu E.uc):=by have:=D.out.1.blk.cell 4;rw[BJ.out]at this;exact this
  rw[hA]at c4;have aw:=D.out.1.blk.lt
  have HR:Hid (∃V',aQ E G q V' (N.setCell ⟨b,ou+n,none⟩ (.int .i64 (n:Int)))/\KX E M w (N.setCell ⟨b,ou+n,none⟩ (.int .i64 (n:Int)))):=kH (by
   obtain⟨h5,h6⟩:=J (n:Int);rw[HP.out]
   exact⟨_,h5,D.out.2.trans h6 (fun g W=>.inl W)⟩)
  clear J v;go_wp2_with fail
  go_ret
  exact⟨rfl,HR.out⟩
 have QJ:l=ro:=by rw[<- Q,if_neg (by omega)]
 subst QJ;clear Q;go_in
 go_wp2_with fail
 ·have b0:(kind==0)=true\/(kind==2)=true:=by assumption
  exfalso
  rcases b0 with e|e
  ·exact d (by simpa using e)
  exact hk2 (by simpa using e)
 rw[<- L];clear L;refine dF (fun w'=>w'.cell? ⟨E.rp,3,none⟩=some (.slice V.dA K V.dc)/\w'.cell? ⟨w.heap.size,1,none⟩=some (.string x)) [15] [true,true,true,true,true,true,true,true,true,true,true,false,false,false,false,false] (by kernel_rfl) (by kernel_rfl) rfl (by kernel_rfl) ?_;have T:I.drew.cell? ⟨E.rp,3,none⟩=some (.slice V.dA K V.dc)/\I.drew.cell? ⟨w.heap.size,1,none⟩=some (.string x):=⟨c3,af⟩
 iterate 11(refine eD rfl T (by intro w' U;obtain⟨az,aE⟩:=U;go_simp;rfl) ?_;simp only[Act.put,sA,sZ,sC])
 refine eu (w':=I.drew.alloc (.cells #[.int .i64 kind,.string x,.int .i64 (n:Int),.int .i64 l] 49)) rfl (by go_simp;rfl) ?_ ?_
 ·exact fun _=>⟨by go_simp,by go_simp⟩
 simp only[Act.put,sA,sZ,sC];refine jR rfl (fG _ (.tmp 31) (.tmp 38) _ rfl E.base 49 i0 _ 4 40 Tryz.underlying27 a8 al an ao rfl (.slice V.dA K V.dc) K (r.ds.flatMap bQ) rfl (qx.out.drew.alloc _) ⟨I.heap.size,0,none⟩ 1 1 (bQ ⟨kind,x,(n:Int),l⟩) rfl rfl (y5 _ _ _ _ _ _ (by go_simp) (by go_simp) (by go_simp) (by go_simp)) (by simp[bQ,Value.oneCell']) (by simp only[maxLen];omega) (by omega) (by simp;omega) ?_);intro v3 R C B rF;obtain⟨A3,F,Z,-,-⟩:=C.shape;subst Z;have y:=B.size;simp at y
 have q1:R.cell? ⟨E.rp,3,none⟩=some (.slice V.dA K V.dc):=by
  rw[B.cell_far _ (by simp;omega) (fun O=>fw.out O.symm)];go_simp
 have q2:R.cell? ⟨w.heap.size,1,none⟩=some (.string x):=by
  rw[B.cell_far _ (by simp;omega) (fun O=>yB.out O.symm)];go_simp
 have P:=ah.grown (ah.alloc (ah.drew H1.out.blk) (.cells #[.int .i64 kind,.string x,.int .i64 (n:Int),.int .i64 l] 49)) B (fun O=>fw.out O.symm);have q5:=P.frozen 3;obtain⟨N, v⟩:=ag (R.setCell ⟨E.rp,3,none⟩ (.slice A3 (K+1) F))
 have D:Hid (aQ E G { r with ds:=r.ds++[⟨kind,x,(n:Int),l⟩] } { V with dA:=A3,dc:=F } N/\KX E M w N):=kH (by
  have zg:Below I.heap.size I (I.drew.alloc (.cells #[.int .i64 kind,.string x,.int .i64 (n:Int),.int .i64 l] 49)):=((Below.refl _ _).drew).alloc (ab9 _) _;have h2:=H1.out.below zg;have Y:=h2.Vb ⟨kind,x,(n:Int),l⟩ (A3:=A3) (c3:=F) (by rw[u.out];exact C) (by rw[u.out];exact B) M;rw[u.out,v]at Y
  exact⟨Y.1,(KX.of_below (S.out.trans (zg.mono S.out.size))).trans Y.2 (fun g W=>.inl W)⟩)
 clear P C B rF;refine⟨fun _=>⟨q1,q2⟩,?_⟩;iterate 2(simp only[Act.put,sA,sZ,sC];refine eu (w':=R) rfl (by go_simp;rfl) (fun _=>⟨q1,q2⟩) ?_)
 simp only[Act.put,sA,sZ,sC];refine gH (w':=R.setCell ⟨E.rp,3,none⟩ (.slice A3 (K+1) F)) rfl (by go_simp) (by simp) ?_;refine gp ?_;simp only[Act.put];rw[v];obtain⟨b,ou,hA,au,iR,av,J⟩:=D.out.1.yH n (by rw[BJ.out];exact hn) M;obtain⟨u0,iR⟩:=iR;have c4:N.cell? ⟨E.rp,4,none⟩=some (.slice E.uA nu E.uc):=by have:=D.out.1.blk.cell 4;rw[BJ.out]at this;exact this
 rw[hA]at c4;have aw:=D.out.1.blk.lt
 have HR:Hid (∃V',aQ E G q V' (N.setCell ⟨b,ou+n,none⟩ (.int .i64 (n:Int)))/\KX E M w (N.setCell ⟨b,ou+n,none⟩ (.int .i64 (n:Int)))):=kH (by
  obtain⟨h5,h6⟩:=J (n:Int);rw[HP.out]
  exact⟨_,h5,D.out.2.trans h6 (fun g W=>.inl W)⟩)
 clear J v;go_wp2_with fail
 go_ret
 exact⟨rfl,HR.out⟩
theorem aW(t:ae)(A:Option Addr)(c:Nat):∃(k:Int) (x:ByteArray) (a z:Int) (m:Nat),t.kind=k/\t.text=x/\t.at_=a/\t.end_=z/\t.kids.length=m/\aO t A c= .agg #[.int .i64 k,.string x,.int .i64 a,.int .i64 z,.slice A m c]:=⟨_,_,_,_,_,rfl,rfl,rfl,rfl,rfl,rfl⟩
theorem BB(E:RC)(G:bf)(r:RS)(V:RV)(w:World)(h:aQ E G r V w)(R:r.ds.length<=1000000)(S:r.aU.length<=1000000)(B:E.base<=w.heap.size)(kind:Int)(n:Nat)(U:n<r.uses.length)(t:ae)(A:Option Addr)(c:Nat)(F:Bool)(M:Nat->Prop):
 Calls Tryz.prog 147 #[.pointer (some ⟨E.rp,0,none⟩),.int .i64 kind,.int .i64 (n:Int),aO t A c,.bool F] w fun e w'=>e= .returned (.bool (!F))/\∃H,aQ E G (aX r kind n t F) H w'/\KX E M w w':=by
 cases F
 ·exact Te E G r V w h R B kind n U t A c M
 obtain⟨k,x,a,z,m,-,-,-,-,-,J⟩:=aW t A c;rw[J];have C:Below w.heap.size w (w.alloc (.cells #[.int .i64 k,.string x,.int .i64 a,.int .i64 z,.slice A m c] 24)):=ai _ _;have I:=TL E G r V (w.alloc (.cells #[.int .i64 k,.string x,.int .i64 a,.int .i64 z,.slice A m c] 24)) (h.below C) S (aca B C.size) 9 n t A c M;rw[J]at I;have D:=kH C;have K:=kH I;clear I C J h;go_in
 go_wp2_with fail
 refine K.out.mono ?_;rintro e O ⟨rfl,Q,L,N⟩;have P:Hid (∃H,aQ E G (aX r kind n t true) H O/\KX E M w O):=kH ⟨Q,L,(KX.of_below D.out).trans N (fun g T=>.inl T)⟩;clear L N K D;go_wp2_with fail
 go_ret
 exact⟨rfl,P.out⟩
theorem use_any(E:RC)(G:bf)(r:RS)(V:RV)(w:World)(h:aQ E G r V w)(b:r.aU.length<=1000000)(D:E.base<=w.heap.size)(n:Nat)(U:n<r.uses.length)(t:ae)(A:Option Addr)(c:Nat)(N:Option Int)(y:Int)(hy:∀k,N=some k->k=y)(M:Nat->Prop):
 Calls Tryz.prog 149 #[.pointer (some ⟨E.rp,0,none⟩),.int .i64 (n:Int),aO t A c,.int .i64 y,.bool N.isSome] w fun e w'=>e= .returned (.tuple #[])/\∃I,aQ E G (iw r n t N) I w'/\KX E M w w':=by
 obtain⟨k,x,a,z,m,-,-,-,-,-,L⟩:=aW t A c;have B:Below w.heap.size w (w.alloc (.cells #[.int .i64 k,.string x,.int .i64 a,.int .i64 z,.slice A m c] 24)):=ai _ _
 cases N with
 | none=>
  have Q:=TL E G r V (w.alloc (.cells #[.int .i64 k,.string x,.int .i64 a,.int .i64 z,.slice A m c] 24)) (h.below B) b (aca D B.size) 8 n t A c M;rw[L]at Q⊢;have H:=kH B;have R:=kH Q;clear Q B L h;go_in
  go_wp2_with fail
  refine R.out.mono ?_;rintro e Z ⟨rfl,q,T,X⟩;have v:Hid (∃I,aQ E G (iw r n t none) I Z/\KX E M w Z):=kH ⟨q,T,(KX.of_below H.out).trans X (fun g P=>.inl P)⟩;clear T X R H;go_wp2_with fail
  try simp only[Exit.inBlock,Exit.then]
  refine bodyPost_ret (results_none rfl _ _ _) rfl ?_;exact⟨rfl,v.out⟩
 | some y'=>
  obtain rfl:y'=y:=hy y' rfl;rw[L];show Calls Tryz.prog 149 #[.pointer (some ⟨E.rp,0,none⟩),.int .i64 (n:Int),.agg #[.int .i64 k,.string x,.int .i64 a,.int .i64 z,.slice A m c],.int .i64 y',.bool true] w _;obtain⟨O, J⟩:=ag (w.alloc (.cells #[.int .i64 k,.string x,.int .i64 a,.int .i64 z,.slice A m c] 24));rw[J]at B;have K:=h.below B;obtain⟨S,Y,d,a1,W,a6,C⟩:=K.yH n U M;obtain⟨u0,W⟩:=W;obtain⟨nu, F⟩:=ag r.uses.length;rw[F]at U;have l:O.cell? ⟨E.rp,4,none⟩=some (.slice E.uA nu E.uc):=by have:=K.blk.cell 4;rw[F]at this;exact this
  rw[d]at l;have a7:=K.blk.lt
  have u:Hid (∃I,aQ E G (iw r n t (some y')) I (O.setCell ⟨S,Y+n,none⟩ (.int .i64 y'))/\KX E M w (O.setCell ⟨S,Y+n,none⟩ (.int .i64 y'))):=kH (by
   obtain⟨j,f⟩:=C y'
   exact⟨_,j,(KX.of_below B).trans f (fun g P=>.inl P)⟩)
  clear C L h K F B;go_in
  go_wp2_with (rw[J])
  go_end0
  exact⟨rfl,u.out⟩
theorem JG(l:lL)(x:ByteArray)(n:Int):oD (jM l) x (.int .i64 n)=jM (dZ l x n):=JF (Value.int .i64) x n l
theorem aQ.nG{E:RC}{G:bf}{r:RS}{V:RV}{w:World}(h:aQ E G r V w):∀g B,E.uA.map (·.block)=some g->w.heap[g]?≠some (.cells B 95 (0,0)):=by
 intro g B A F
 have H:(Value.slice E.uA r.uses.length E.uc).ownBlock=some g:=by
  cases C:E.uA with
  | none=>rw[C]at A;cases A
  | some p=>rw[C]at A;simpa [Value.ownBlock] using A
 obtain⟨cur,D⟩:=h.us.obj g H;rw[F]at D;simp at D
theorem aQ.TQ{E:RC}{G:bf}{r:RS}{V:RV}{w:World}(h:aQ E G r V w){g:Nat}{C:Array Value}(D:ah w g 24 C):E.uA.map (·.block)≠some g:=by
 intro A
 have F:(Value.slice E.uA r.uses.length E.uc).ownBlock=some g:=by
  cases B:E.uA with
  | none=>rw[B]at A;cases A
  | some p=>rw[B]at A;simpa [Value.ownBlock] using A
 exact h.us.bB D (by decide) F
structure Ec (E:RC) (ms:List Nat):Prop where
 nodup:ms.Nodup
 apart:∀m∈ms,m≠E.g/\m≠E.f/\m≠E.k/\m≠E.vi
theorem aQ.sQ{E:RC}{G:bf}{r:RS}{V:RV}{w w':World}{m:Nat}(h:aQ E G r V w)(B:ak (fun g=>g=m) w w')(F:m≠E.g/\m≠E.f/\m≠E.k/\m≠E.vi)(D:∃J I,w.heap[m]? =some (.map J I)):aQ E G r V w':=by
 obtain⟨J,I,D⟩:=D
 have H:∀{g:Nat}{t:TypeId}{M:Array Value},ah w g t M->g≠m:=fun H e=>by
  subst e;have:w.heap[_]? =some (Obj.cells _ _ (0,0)):=H;rw[D]at this;cases this
 have A:∀{e size v n xs},aG w E.base e size v n xs->aG w' E.base e size v n xs:=fun K=>K.since B (fun g C e=>by
  subst e;obtain⟨cur,L⟩:=K.obj _ C;rw[D]at L
  cases L)
 refine⟨h.blk.since B (H h.blk),h.gl.since B (fun e=>F.1 e.symm),h.fl.since B (fun e=>F.2.1 e.symm),h.kn.since B (fun e=>F.2.2.1 e.symm),h.vi.since B (fun e=>F.2.2.2 e.symm),?_,A h.ds,A h.us,A h.ps,h.low,h.apart⟩;refine fJ.of_block h.aP fun g cur C _=>B.block g (acd.1 C).1 fun e=>?_
 subst e;rw[D]at C;cases C
theorem aY.isMap{K:Type}[DecidableEq K]{KK:nW K}{w:World}{r:Nat}{m:List (K×Value)}(h:aY KK w r m):∃B A,w.heap[r]? =some (.map B A):=by
 obtain⟨B,A,C,_⟩:=h;exact⟨B,A,C⟩
theorem KX.sQ{E:RC}{w w':World}{m:Nat}{M:Nat->Prop}(G:ak (fun g=>g=m) w w')(D:M m)(C:E.base<=m)(F:∃B A,w.heap[m]? =some (.map B A)):KX E M w w':=
 ak.mono G fun g e=>by subst e;exact⟨C,.inr ⟨F,D⟩⟩
theorem OI(E:RC)(G:bf)(r:RS)(V:RV)(w:World)(h:aQ E G r V w)(hN:r.ds.length<=1000000)(hP:r.aU.length<=1000000)(j:E.base<=w.heap.size)(kind:Int)(n:Nat)(hn:n<r.uses.length)(t:ae)(A:Option Addr)(c:Nat)
 (l:lL) (s:aR) (p:Option Addr) (m:Nat) (R:List Nat) (hs:bY w E.base p (l::s) (m::R)) (X:Ec E (m::R)):
 Calls Tryz.prog 148 #[.pointer (some ⟨E.rp,0,none⟩),.int .i64 kind,.int .i64 (n:Int),aO t A c,.pointer p] w fun e w'=>e= .returned (.tuple #[])/\∃u,aQ E G (aJ G r kind n t (l::s)).1 u w'/\bY w' E.base p (aJ G r kind n t (l::s)).2 (m::R)/\KX E (fun g=>g=m) w w':=by
 obtain⟨k,x,a,z,mk,-,hx,-,-,-,hv⟩:=aW t A c;obtain⟨B, J⟩:=ag (w.alloc (.cells #[.int .i64 k,.string x,.int .i64 a,.int .i64 z,.slice A mk c] 24));have K:Below w.heap.size w B:=by rw[<- J];exact ai _ _
 have C:ah B w.heap.size 24 #[.int .i64 k,.string x,.int .i64 a,.int .i64 z,.slice A mk c]:=by rw[<- J];exact ah.new w _ _
 have h1:=h.below K;have d:=hs.below K;have D:=Rk E.base x B (l::s) p (m::R) d;have f:=fun q=>oH (B.drewN q) E.g G.globals (aY.drewN h1.gl q) x
 have a1:E.base<=B.heap.size:=aca j K.size;have F:=fun q al=>BB E G r V (B.drewN q) (h1.below (aL (Below.refl _ _) q)) hN hP a1 kind n hn t A c al (fun _=>False)
 rw[hv]at F⊢;obtain⟨b,m0,p',bk,hp,af,ay,b3,ao,aq,ar⟩:=d;simp only[List.cons.injEq]at af;obtain⟨rfl,rfl⟩:=af;subst hp
 have v:aJ G r kind n t (l::s)=if (fF (l::s) x).isSome || (bK G.globals x).isSome then(pE r 9 n t,l::s) else(kK r kind n t,dZ l x (n:Int)::s):=by
  unfold aJ;rw[hx];rfl
 rw[v];have b0:aX r kind n t true=pE r 9 n t:=rfl;have aE:aX r kind n t false=kK r kind n t:=rfl;have c0:=h1.blk.cell 0;have b8:=h1.blk.lt;have bb:=C.cell 0;have bc:=C.cell 1;have bd:=C.cell 2;have bh:=C.cell 3;have bj:=C.cell 4;have b9:=C.lt;generalize b1:fF (l::s) x=fo at D⊢
 obtain⟨go, ab⟩:=ag (bK G.globals x);rw[ab]at f⊢;have H1:=kH h1;have Ht:Hid (bY B E.base (some ⟨b,0,none⟩) (l::s) (m::R)):=kH ⟨b,m,p',R,rfl,rfl,ay,b3,ao,aq,ar⟩;have a8:=kH C;have a6:=kH K;have HF:=kH D;have S:=kH X;clear h hs v b1 ab hx hv h1 C K ar D ao aq X
 have W:Hid (∀q H,(∃u,aQ E G (pE r 9 n t) u H/\KX E (fun _=>False) (B.drewN q) H)->∃u,aQ E G (pE r 9 n t) u H/\bY H E.base (some ⟨b,0,none⟩) (l::s) (m::R)/\KX E (fun g=>g=m) w H):=kH (by
  rintro q H ⟨V2,h2,k2⟩;have hd:Below B.heap.size B (B.drewN q):=aL (Below.refl _ _) q;have k1:KX E (fun _=>False) B H:=(KX.of_below (M:=fun _=>False) hd).trans k2 (fun g L=>L.elim)
  exact⟨V2,h2,bY.kx k1 H1.out.nG Ht.out (fun _ _ h=>h),(KX.of_below a6.out).trans k1 (fun g L=>L.elim)⟩)
 have Q:=fun q=>F q true
 have Wm:=fun q=>F q false
 rw[b0]at Q;rw[aE]at Wm;simp only[Bool.not_true,Bool.not_false]at Q Wm;have a7:=kH Q;have au:=kH Wm;clear Q Wm F
 cases fo with
 | some y=>
  simp only[Option.isSome_some,Bool.true_or,if_true]at HF⊢;go_in
  go_wp2_with (rw[J])
  refine HF.out.mono ?_;rintro e H ⟨rfl,N⟩;obtain rfl:B=H:=N.symm;go_wp2_with fail
  go_quiet (fail)
  go_wp2_with fail
  refine(a7.out _).mono ?_;rintro e I ⟨rfl,T⟩;have HE:=kH (W.out _ I T);clear T;go_wp2_with fail
  go_end0
  exact⟨rfl,HE.out⟩
 | none=>
  cases go with
  | some y=>
   simp only[Option.isSome_some,Option.isSome_none,Bool.or_true,if_true]at HF f⊢;go_in
   go_wp2_with (rw[J])
   refine HF.out.mono ?_;rintro e H ⟨rfl,N⟩;obtain rfl:B=H:=N.symm;go_wp2_with fail
   go_quiet (fail)
   go_wp2_with fail
   refine(a7.out _).mono ?_;rintro e I ⟨rfl,T⟩;have HE:=kH (W.out _ I T);clear T;go_wp2_with fail
   go_end0
   exact⟨rfl,HE.out⟩
  | none=>
   simp only[Option.isSome_none,Bool.or_false,Bool.false_eq_true,if_false]at HF f⊢;go_in
   go_wp2_with (rw[J])
   refine HF.out.mono ?_;rintro e H ⟨rfl,N⟩;obtain rfl:B=H:=N.symm;go_wp2_with fail
   go_quiet (fail)
   go_wp2_with fail
   refine(au.out _).mono ?_;rintro e I ⟨rfl,V3,T,k3⟩;have k1:KX E (fun _=>False) B I:=(KX.of_below (M:=fun _=>False) (aL (Below.refl B.heap.size B) _)).trans k3 (fun g L=>L.elim);have b5:=bY.kx k1 H1.out.nG Ht.out (fun _ _ h=>h);have DW:=k1.blk a8.out (by decide) (by decide) (by decide) (H1.out.TQ a8.out);have K1:=kH k1;have H3:=kH T;obtain⟨b2,m2,p2,zX,an,wQ,az,ad,VO,Y,Z⟩:=b5;simp only[List.cons.injEq]at wQ;obtain⟨rfl,rfl⟩:=wQ;simp only[acf,Addr.mk.injEq,and_true]at an;subst an;have d1:=VO.cell 1;have e1:=DW.cell 1;have b6:=VO.lt;have b7:=DW.lt;have R5:=kH VO;have nO:=kH Y;have av:=kH Z;clear DW k1 k3 T VO Y Z;go_wp2_with fail
   refine dF (fun w'=>w'.cell? ⟨b,1,none⟩=some (.map (some m))/\w'.cell? ⟨w.heap.size,1,none⟩=some (.string x)) [7] [true,true,true,true,true,true,true,false] (by kernel_rfl) (by kernel_rfl) rfl (by kernel_rfl) ?_;have aw:I.drew.cell? ⟨b,1,none⟩=some (.map (some m))/\I.drew.cell? ⟨w.heap.size,1,none⟩=some (.string x):=⟨d1,e1⟩
   iterate 7(refine eD rfl aw (by intro w' ax;obtain⟨d,ba⟩:=ax;go_simp;rfl) ?_;simp only[Act.put,sA,sZ,sC])
   obtain⟨w4,U,GR,aa,wN⟩:=iO (P:=Tryz.prog) (KK:=jS) (t:=70) (kt:=9) (et:=3) Tryz.underlying70 Tryz.underlying9 (nO.out.drew) x (.int .i64 (n:Int));change (Instr.mapUpdate 70 (.map (some m)) (Value.string x) (.int .i64 (n:Int))).run Tryz.prog I.drew=_ at U;have O:ak (fun g=>g=m) I w4:=((ak.refl (fun g=>g=m) I).drew).grown aa (fun k hk=>by cases hk;exact .inl rfl)
   have HE:Hid (∃u,aQ E G (kK r kind n t) u w4/\bY w4 E.base (some ⟨b,0,none⟩) (dZ l x (n:Int)::s) (m::R)/\KX E (fun g=>g=m) w w4):=kH (by
    rw[JG]at GR;have QO:=nO.out.isMap;have VN:=S.out.apart m (by simp);have b4:=List.nodup_cons.1 S.out.nodup;have km:KX E (fun g=>g=m) I w4:=KX.sQ O rfl ad QO;refine⟨V3,H3.out.sQ O VN QO,⟨b,m,p2,R,rfl,rfl,az,ad,?_,GR,?_⟩,(KX.of_below a6.out).trans ((K1.out.mono (M':=fun g=>g=m) (fun _ h=>h.elim)).trans km (fun g L=>.inl L)) (fun g L=>.inl L)⟩
    ·refine R5.out.since O (fun e=>?_)
     obtain⟨es,ck,ho⟩:=QO;subst e;have:I.heap[b]? =some (Obj.cells _ _ (0,0)):=R5.out;rw[ho]at this;cases this
    exact bY.kx km H3.out.nG av.out (fun g L e=>b4.1 (by rw[<- e];exact L)))
   clear GR aa wN O;refine gH (w':=w4) rfl (by simp[execOp,Act.eval,U,Result.andThen]) (by simp) ?_;refine gp ?_;simp only[Act.put];go_wp2_with fail
   go_end0
   exact⟨rfl,HE.out⟩
mutual
def aM:ae->List ae
 | .node k t a e kids=>.node k t a e kids::bg kids
def bg:List ae->List ae
 | []=>[]
 | t::ts=>aM t++bg ts
end
mutual
theorem eZ:∀(t:ae),(aM t).length=aB t
 | .node _ _ _ _ kids=>by
  simp only[aM,aB,aco,mK kids];omega
theorem mK:∀(ts:List ae),(bg ts).length=aC ts
 | []=>rfl
 | t::ts=>by simp only[bg,aC,acm,eZ t,mK ts]
end
theorem iK(t:ae):aM t=t::bg t.kids:=by
 cases t
 rfl
theorem uJ:∀(ts:List ae) (i:Nat) (t:ae),ts[i]? =some t->bg (ts.take (i+1))=bg (ts.take i)++aM t
 | [],i,t,h=>by simp at h
 | u::ts,0,t,h=>by
  simp at h;subst h;simp[bg]
 | u::ts,i+1,t,h=>by
  have:=uJ ts i t (by simpa using h);simp only[List.take_succ_cons,bg,this,List.append_assoc]
def gF(w:World)(B:Nat):List ae->List (List Value)->Prop
 | [],vals=>vals=[]
 | t::ts,vals=> ∃v vs,vals=v::vs/\jH w B t v/\gF w B ts vs
theorem gF.append{w:World}{B:Nat}:∀{ts D:List ae}{A C:List (List Value)},gF w B ts A->gF w B D C->gF w B (ts++D) (A++C)
 | [],D,A,C,h,h2=>by
  have:A=[]:=h;subst this;exact h2
 | t::ts,D,_,C,h,h2=>by
  obtain⟨v,A,rfl,E,F⟩:=h;exact⟨v,A++C,rfl,E,gF.append F h2⟩
theorem gF.below{w w':World}{B C:Nat}(E:Below C w w')(D:B<=C):∀{ts:List ae}{A:List (List Value)},gF w B ts A->gF w' B ts A
 | [],_,h=>h
 | _::_,_,h=>by
  obtain⟨v,A,rfl,F,G⟩:=h;exact⟨v,A,rfl,jH.below E D _ _ F,gF.below E D G⟩
theorem gF.lens{w:World}{B:Nat}:∀{ts:List ae}{D:List (List Value)},gF w B ts D->(List.flatten D).length=ts.length*5/\∀u∈List.flatten D,u.oneCell'=true
 | [],D,h=>by
  have:D=[]:=h;subst this;exact⟨rfl,by simp⟩
 | t::ts,_,h=>by
  obtain⟨v,D,rfl,F,G⟩:=h;have E:=gF.lens G;obtain⟨A,c,rfl,-⟩:=F.five;refine⟨?_,fun u C=>?_⟩
  ·simp only[List.flatten_cons,acm,E.1,aco,List.length_nil]
   omega
  simp only[List.flatten_cons,List.mem_append]at C;rcases C with C|C
  ·simp at C
   rcases C with rfl|rfl|rfl|rfl|rfl<;>rfl
  exact E.2 u C
def RL(w:World)(B:Nat)(ts:List ae)(e:Ending)(w':World):Prop:=
 ∃v n vals,e= .returned v/\n=ts.length/\aG w' w.heap.size 24 5 v n (List.flatten vals)/\gF w' B ts vals/\Below w.heap.size w w'
theorem Ex:∀(m:Nat) (t:ae) (A:Option Addr) (c:Nat) (w:World) (B:Nat),B<=w.heap.size->aB t<=m->m<=1000000000->t.kids.length<=c->aD w B A 0 t.kids ->
 Calls Tryz.prog 36 #[aO t A c] w (RL w B (aM t)):=by
 obtain⟨i0,bj,bs,bt,bu⟩:=info_parts Nw;intro m
 induction m with
 | zero=>
  intro t A c w B _ h;have:=pW t;omega
 | succ m ih=>
  intro t A c w B W hm ab R hk;have ar:=mY t;have d:=iK t;obtain⟨C, lF⟩:=ag t.kids;obtain⟨n, hn⟩:=ag C.length;have YC:∀w',aD w' B A 0 t.kids->jH w' B t [.int .i64 t.kind,.string t.text,.int .i64 t.at_,.int .i64 t.end_,.slice A t.kids.length c]:=fun w' h=>by cases t;exact⟨A,c,rfl,R,h⟩
  unfold aO;rw[lF]at hk ar d YC⊢;rw[hn]at YC⊢;obtain⟨k, av⟩:=ag t.kind;obtain⟨x, b2⟩:=ag t.text;obtain⟨a, aq⟩:=ag t.at_;obtain⟨z, b3⟩:=ag t.end_;rw[av,b2,aq,b3]at YC⊢;have l:=dO C;have b7:=kH YC;have HK:=kH hk;have HN:=kH hn;have qQ:=kH d;have jo:=kH ih;have HM:Hid (aC C<=m/\m<=1000000000):=kH ⟨by omega,by omega⟩;have bT:n<=1000000000:=by omega
  clear hk ar ih hm ab R av b2 aq b3 lF hn l YC d;go_in
  go_wp2_with fail
  generalize N:w.alloc (.cells #[.int .i64 k,.string x,.int .i64 a,.int .i64 z,.slice A n c] 24)=W1
  have r:Below w.heap.size w W1:=by rw[<- N];exact ai _ _
  have nK:ah W1 w.heap.size 24 #[.int .i64 k,.string x,.int .i64 a,.int .i64 z,.slice A n c]:=by rw[<- N];exact ah.new w _ _
  have af:W1.heap.size=w.heap.size+1:=by rw[<- N];simp
  rw[<- af];generalize O:W1.alloc (.cells #[.int .i64 k,.string x,.int .i64 a,.int .i64 z,.slice A n c] 24)=W2
  have q:Below W1.heap.size W1 W2:=by rw[<- O];exact ai _ _
  have ao:aG W2 W1.heap.size 24 5 (.slice (some ⟨W1.heap.size,0,none⟩) 1 1) 1 (List.flatten [[.int .i64 k,.string x,.int .i64 a,.int .i64 z,.slice A n c]]):=by
   have:=aG.block (base:=W1.heap.size) (e:=24) (size:=5) (n:=1) (ab9 _) (ah.new W1 24 #[.int .i64 k,.string x,.int .i64 a,.int .i64 z,.slice A n c]) (by simp[maxLen]) rfl;rw[O]at this;exact this
  have X:=nK.below q nK.lt;have uE:=r.trans (q.mono r.size);have f:=aD.below uE W _ _ _ HK.out;have b1:gF W2 B [t] [[.int .i64 k,.string x,.int .i64 a,.int .i64 z,.slice A n c]]:=⟨_,_,rfl,b7.out W2 f,rfl⟩
  have b5:=kH X;have BH:=kH ao;have b4:=kH uE;have RY:=kH b1;have Eh:=kH f;have bN:=X.lt;have Ht:Hid (W1.heap.size=w.heap.size+1/\W1.heap.size<W2.heap.size):=kH ⟨af,by rw[<- O];simp⟩;clear N O r q nK X ao uE f b1 af;go_loopg [3,4] n (fun gk s3 s4 wr=> ∃(i:Nat) (A3:Option Addr) (K c3:Nat) (vals:List (List Value)),i+gk=n/\s3= .slice A3 K c3/\s4= .int .i64 (i:Int)/\K=1+aC (C.take i)/\aG wr W1.heap.size 24 5 (.slice A3 K c3) K (List.flatten vals)/\gF wr B (t::bg (C.take i)) vals/\Below W1.heap.size W2 wr)
  case atStart=>exact⟨0,_,1,1,_,by omega,rfl,rfl,by simp[aC],BH.out,by simpa [bg] using RY.out,Below.refl _ _⟩
  obtain⟨i,A3,K,c3,vals,hi,rfl,rfl,vM,hO,hV,hB⟩:=hrel;have Z:=Ht.out;have Y:=b5.out.below hB (by omega);have bG:wr.cell? ⟨w.heap.size,4,none⟩=some (.slice A n c):=Y.cell 4;have bP:=Y.lt;have M:=kH hB;have HI:=kH hi;have HO:=kH hO;have HV:=kH hV;have kE:=kH vM;have bM:i<=n:=by omega
  have l:=fe C i;have bI:K<=1000000001:=by have:=HM.out;omega
  clear hB Y hi l hO hV vM Z;by_cases bm:i<n
  ·have bn:(i:Int)<(n:Int):=by omega
   obtain⟨u,hu⟩:∃u,C[i]? =some u:=⟨_,ace (by rw[HN.out];exact bm)⟩
   obtain⟨kv,⟨b,L,hA,bB,E⟩,hT⟩:=Eh.out.get i u hu;obtain⟨A',c',iY,an⟩:=hT.five;subst hA;subst iY;have G:=hT.cap;have Z:=Ht.out;have bx:b<wr.heap.size:=by omega
   have F:b<W1.heap.size:=by omega
   have t0:wr.cell? ⟨b,L+i*5,none⟩=some (.int .i64 u.kind):=(M.out.cell (p:=⟨b,_,none⟩) F).trans (by simpa using E 0 _ rfl);have t1:wr.cell? ⟨b,L+i*5+1,none⟩=some (.string u.text):=(M.out.cell (p:=⟨b,_,none⟩) F).trans (by simpa using E 1 _ rfl);have t2:wr.cell? ⟨b,L+i*5+2,none⟩=some (.int .i64 u.at_):=(M.out.cell (p:=⟨b,_,none⟩) F).trans (by simpa using E 2 _ rfl);have t3:wr.cell? ⟨b,L+i*5+3,none⟩=some (.int .i64 u.end_):=(M.out.cell (p:=⟨b,_,none⟩) F).trans (by simpa using E 3 _ rfl);have t4:wr.cell? ⟨b,L+i*5+4,none⟩=some (.slice A' u.kids.length c'):=(M.out.cell (p:=⟨b,_,none⟩) F).trans (by simpa using E 4 _ rfl);have ay:=dI C i u hu;have bl:=fe C (i+1);have ax:=uJ C i u hu;have ad:=M.out.size;have D:=jo.out u A' c' wr B (by omega) (by have:=HM.out;omega) HM.out.2 G (aD.below M.out (by omega) _ _ _ an);unfold aO at D;have HC:=kH D;have b6:=kH ay;have F6:=kH ax;have az:aB u<=1000000001:=by have:=HM.out;omega
   have b8:=kH az;have b0:=pW u;have b9:=kH b0;have bX:IntKind.i64.wrap ((i:Int)+1)=(i:Int)+1:=IntWalk.i64_in _ (by omega);obtain⟨un, aE⟩:=ag u.kids.length;rw[aE]at t4 HC;have HZ:Hid (W1.heap.size<=wr.heap.size/\w.heap.size<=W1.heap.size/\w.heap.size<wr.heap.size):=kH ⟨by omega,by omega,by omega⟩;clear E hT an ay bl ax D hu aE az b0 Z ad G;go_wp2_with fail
   refine HC.out.mono ?_;rintro e w5 ⟨v5,n5,OZ,rfl,sV,Jf,v,P⟩;rw[eZ]at sV;have T:0<n5:=by rw[sV];exact b9.out
   obtain⟨g5,U,a8,rfl,bd,bo,au,bh,Ue⟩:=Jf.form T;have VY:=v.lens;rw[eZ,<- sV]at VY;have Q:=HO.out.below P (fun g S=>(HO.out.lt g S).2);have br:=P.size;have a1:=kH Q;have al:=kH VY
   have BI:Hid (∀j u,(List.flatten OZ)[j]? =some u->w5.cell? ((⟨g5,U,none⟩:Addr).add j)=some u):=kH (fun j u hu=>by
    have h5:=Ue j u hu;by_cases h0:j=0
    ·subst h0
     simpa [Addr.add] using h5
    simpa [Addr.add,h0] using h5)
   have ba:=kH v;have kF:=kH P;have bw:=kH Jf;have Oz:=kH sV;have bp:n5<=1000000001:=by have:=b8.out;omega
   have V:Hid (W1.heap.size<=w5.heap.size/\wr.heap.size<=g5):=kH ⟨by have:=HZ.out;omega,au⟩;clear Q VY Ue v P Jf sV bd bo au T;go_wp2_with (at_builtin;go_must (refine dW _ rfl (.tmp 14) (.tmp 20) _ rfl W1.heap.size 24 i0 _ 5 64 Tryz.underlying22 bj bs bt bu rfl (.slice A3 K c3) K (List.flatten vals) rfl a1.out ⟨g5,U,none⟩ n5 a8 (List.flatten OZ) rfl al.out.1 (BI.out) al.out.2 (by simp only[maxLen];omega) (by omega) V.out.1 ?_);intro vn w6 I H bc;obtain⟨A6,c6,qj,-,-⟩:=I.shape;subst qj;have a6:=kH I;have xD:=kH H;clear I H bc)
   have Cj:Below W1.heap.size W2 w6:=((M.out.trans (kF.out.mono HZ.out.1)).trans (((ak.refl (fun g=>W1.heap.size<=g) w5).grown xD.out (fun g S=>.inl (HO.out.lt g S).1)).toBelow V.out.1 (fun g S=>S)))
   have aa:Below w.heap.size w5 w6:=((ak.refl (fun g=>W1.heap.size<=g) w5).grown xD.out (fun g S=>.inl (HO.out.lt g S).1)).toBelow (by have:=HZ.out;have:=V.out;omega) (fun g S=>by have:=HZ.out;omega)
   have bb:gF w6 B (t::bg (C.take (i+1))) (vals++OZ):=by
    rw[F6.out,<- List.cons_append];exact((HV.out.below (kF.out.mono (by have:=HZ.out;omega)) W).append ba.out).below aa W
   go_roundg (gk - 1)
   case measure=>have:=HI.out;omega
   exact⟨i+1,A6,K+n5,c6,vals++OZ,by have:=HI.out;omega,rfl,by simp,by rw[b6.out,kE.out,Oz.out];omega,by rw[List.flatten_append];exact a6.out,bb,Cj⟩
  have bk:i=n:=by omega
  have J:C.take i=C:=by rw[bk,<- HN.out,List.take_length]
  have y:=HV.out;rw[J,<- qQ.out]at y;have a7:=kH y;have aw:K=(aM t).length:=by rw[kE.out,J,qQ.out,aco,mK];omega
  have OA:=kH aw;clear y aw;go_wp2_with fail
  go_ret
  exact⟨_,K,vals,rfl,OA.out,HO.out.mono (by have:=Ht.out;omega),a7.out,b4.out.trans (M.out.mono (by have:=Ht.out;omega))⟩
open Go.Shelf
attribute [local go_sem] Oper.semAt_some
theorem P9{F:Fence}(A:F.depth=none)(k:Nat):F.room k:=fun d h=>by rw[A]at h;cases h
theorem XH{F:Fence}(B:F.depth=none){m C:Nat}{P:Program}{l:Nat}{f:FuncId}{tmps:Array Value}{assign body:Code}{w:World}{R:Ending->World->Prop}
 (h:RoundIn F m P l f tmps assign body w R):RoundIn F C P l f tmps assign body w R:=⟨h.1,fun c A _=>h.2 c A (P9 B _)⟩
theorem Xh{F:Fence}(C:F.depth=none){m:Nat}(E:Nat){P:Program}{l:Nat}{args:Array Value}{W:World}{R:Ending->World->Prop}(h:YieldAt F m P l args W R):YieldAt F E P l args W R:=by
 obtain⟨A,tmps,assign,body,D,B⟩:=h;exact⟨A,tmps,assign,body,D,XH C B⟩
structure FZ (w:World) (B M:Nat) where
 t:ae
 A:Option Addr
 c:Nat
 kids:aD w B A 0 t.kids
 small:aB t<=M
theorem uP:∀(a b:List ae),bg (a++b)=bg a++bg b
 | [],_=>rfl
 | t::ts,b=>by simp only[List.cons_append,bg,uP ts b,List.append_assoc]
structure fK (B n₁:Nat) (W W':World):Prop where
 size:W.heap.size<=W'.heap.size
 same:∀(g:Nat) (o:Obj),(g<B\/n₁<=g)->W.heap[g]? =some o->o.isCells=true->W'.heap[g]? =some o
theorem fK.refl(B A:Nat)(W:World):fK B A W W:=⟨ab9 _,fun _ _ _ h _=>h⟩
theorem fK.trans{B A:Nat}{W C D:World}(h:fK B A W C)(k:fK B A C D):fK B A W D:=
 ⟨aca h.size k.size,fun g o F G E=>k.same g o F (h.same g o F G E) E⟩
theorem fK.of_below{B A n:Nat}{W C:World}(h:Below n W C)(E:n=W.heap.size):fK B A W C:=
 ⟨h.size,fun g o _ D _=>(h.block g (by subst E;exact(acd.1 D).1)).trans D⟩
theorem fK.putObj{B A:Nat}{W:World}{l:Nat}{o:Obj}(E:Obj)(h:W.heap[l]? =some o)(G:o.isCells=false):fK B A W (W.putObj l E):=by
 have H:=(acd.1 h).1;refine⟨(grownBy_putObj' W l E).size,fun g p _ C F=>?_⟩
 have D:g≠l:=fun e=>by
  subst e;rw[h]at C;cases C
  rw[G]at F;cases F
 exact((grownBy_putObj' W l E).block g (acd.1 C).1 (fun e=>D (by cases e;rfl))).trans C
theorem fK.setCell{B A:Nat}{W:World}(p:Addr)(u:Value)(D:B<=p.block)(E:p.block<A):fK B A W (W.setCell p u):=
 ⟨by simp,fun g o F C _=>(Below.heap_setCell W p u g (by omega)).trans C⟩
theorem abE{W:World}{p:Addr}{v:Value}(h:W.cell? p=some v):∃o,W.heap[p.block]? =some o/\o.isCells=true:=by
 unfold World.cell? at h
 cases A:W.heap[p.block]? with
 | none=>rw[A]at h;simp at h
 | some o=>
  refine⟨o,rfl,?_⟩;rw[A]at h;cases o<;>simp_all [Obj.isCells]
theorem fK.cell{B A:Nat}{W D:World}(h:fK B A W D){p:Addr}{v:Value}(H:p.block<B\/A<=p.block)(C:W.cell? p=some v):D.cell? p=some v:=by
 obtain⟨o,E,G⟩:=abE C;have F:=h.same _ _ H E G;unfold World.cell? at C⊢;rw[F];rw[E]at C;exact C
theorem fK.blk{B A:Nat}{W C:World}(h:fK B A W C){g:Nat}{t:TypeId}{D:Array Value}(F:g<B\/A<=g)(E:ah W g t D):ah C g t D:=h.same g _ F E rfl
theorem ZV(F:Fence)(hd:F.depth=none)(hf:F.fn 200)(b3:F.round=none)(l B E M N:Nat)(hB:B<=E)(hM:M<=1000000000)(R:World)(J Jx:List (FZ R B M)->World->Prop)
 (hJ:∀s W o,J s W->J s (W.alloc o))
 (hY:∀m D x W,J D W->D.length<N->YieldAt F m Tryz.prog l #[aO x.t x.A x.c] W fun e S=>
  (e= .returned (.bool true)/\J (D++[x]) S/\fK B E W S)\/(e= .returned (.bool false)/\Jx (D++[x]) S)):
 ∀(m:Nat) (t:ae) (A:Option Addr) (c n:Nat) (D:List (FZ R B M)) (W:World),aB t<=m->m<=M->aD R B A 0 t.kids->fK B E R W->E<=W.heap.size->J D W->D.length+aB t<=N ->
  CallsIn F n Tryz.prog 200 #[aO t A c,.func (.yield l) #[] #[]] W fun e S=>
   (e= .returned (.bool true)/\∃I:List (FZ R B M),I.map (·.t)=aM t/\J (D++I) S/\fK B E W S) \/
   (e= .returned (.bool false)/\∃q:List (FZ R B M),q.map (·.t)<+:aM t/\Jx (D++q) S):=by
 intro m
 induction m with
 | zero=>
  intro t A c n D W h;have:=pW t;omega
 | succ m ih=>
  intro t A c n D W hm b2 hk ao b4 hj hN;have aa:∀k:Nat,(F.depth.isSome=true->1<=k):=fun k h=>by rw[hd]at h;cases h
  have a8:=mY t;have U:=iK t;obtain⟨x,r⟩:∃x:FZ R B M,x=⟨t,A,c,hk,by omega⟩:=⟨_,rfl⟩
  have G:=fun S az=>hY (n - 1) D x S az (by omega)
  have V:x.t=t:=by rw[r]
  have aq:x.A=A:=by rw[r]
  have NK:x.c=c:=by rw[r]
  rw[V,aq,NK]at G;clear r;obtain⟨C, lF⟩:=ag t.kids;obtain⟨nk, hn⟩:=ag C.length;unfold aO at G⊢;rw[lF]at hk a8 U G⊢;rw[hn]at G⊢;obtain⟨k, aE⟩:=ag t.kind;obtain⟨tx, b8⟩:=ag t.text;obtain⟨a, av⟩:=ag t.at_;obtain⟨z, ba⟩:=ag t.end_;rw[aE,b8,av,ba]at G⊢;have ax:=dO C;have bb:nk<=1000000000:=by omega
  generalize L:W.alloc (.cells #[.int .i64 k,.string tx,.int .i64 a,.int .i64 z,.slice A nk c] 24)=W1
  have ab:J D W1:=by rw[<- L];exact hJ _ _ _ hj
  have af:fK B E W W1:=by rw[<- L];exact fK.of_below (ai _ _) rfl
  have nK:ah W1 W.heap.size 24 #[.int .i64 k,.string tx,.int .i64 a,.int .i64 z,.slice A nk c]:=by rw[<- L];exact ah.new W _ _
  have ar:=(G W1 ab).mono (R':=fun e y=>(e= .returned (.bool true)/\y.cell? ⟨W.heap.size,4,none⟩=some (.slice A nk c)/\J (D++[x]) y/\fK B E W y)\/(e= .returned (.bool false)/\Jx (D++[x]) y))
   (fun e y h=>h.elim (fun⟨h1,h2,v⟩=>.inl ⟨h1,(v.blk (.inr b4) nK).cell 4,h2,af.trans v⟩) .inr)
  rw[<- L]at ar;clear G L ab af nK;refine callsIn_of_wp Tryz.func200 rfl hf ?_ b3;simp only[Tryz.ntmps200,List.size_toArray,aco,List.length_nil,Nat.reduceAdd,Nat.reduceSub,Array.replicate_succ,Array.replicate_zero,List.push_toArray,List.append_toArray,List.nil_append,List.cons_append];obtain⟨fn,tmps,assign,body,hy,hR⟩:=ar
  gi_wp2_with (first
   | ((try refine⟨aa _,?_⟩);refine hR.mono ?_;clear hR;rintro e y (⟨rfl,c4,a6,al⟩| ⟨rfl,b9⟩)))
  ·have HK:=kH hk
   have HN:=kH hn;have qQ:=kH U;have jo:=kH ih;have HM:Hid (aC C<=m/\m<=1000000000/\m<=M/\D.length+1+aC C<=N):=kH ⟨by omega,by omega,by omega,by omega⟩;have HJ:=kH hJ;have f:=kH ao;have au:=kH a6;have Eh:=kH al;have d:=kH V;clear hk hn U ih hm b2 hN hY hJ ao a6 al hj a8 lF ax V aq NK c4;gi_loopw [14] (fun p wr=> ∃(i:Nat) (I:List (FZ R B M)),p= .int .i64 (i:Int)/\i<=nk/\Hid (I.map (·.t)=bg (C.take i)/\J (D++x::I) wr/\fK B E W wr)) (fun p _=>nk - (intOf p).toNat)
   case atStart=>exact⟨0,[],rfl,Nat.zero_le _,kH ⟨by simp[bg],au.out,Eh.out⟩⟩
   obtain⟨i,I,rfl,hi,K⟩:=hrel;by_cases b1:i<nk
   ·obtain⟨u,hu⟩:∃u,C[i]? =some u:=⟨_,ace (by rw[HN.out];exact b1)⟩
    obtain⟨kv,⟨b,Q,hA,O,H⟩,hT⟩:=HK.out.get i u hu;obtain⟨A',c',iY,a7⟩:=hT.five;have aw:b<wr.heap.size:=by have:=K.out.2.2.size;omega
    subst hA;subst iY;have j:=f.out.trans K.out.2.2;have t0:wr.cell? ⟨b,Q+i*5,none⟩=some (.int .i64 u.kind):=j.cell (.inl O) (by simpa using H 0 _ rfl);have t1:wr.cell? ⟨b,Q+i*5+1,none⟩=some (.string u.text):=j.cell (.inl O) (by simpa using H 1 _ rfl);have t2:wr.cell? ⟨b,Q+i*5+2,none⟩=some (.int .i64 u.at_):=j.cell (.inl O) (by simpa using H 2 _ rfl);have t3:wr.cell? ⟨b,Q+i*5+3,none⟩=some (.int .i64 u.end_):=j.cell (.inl O) (by simpa using H 3 _ rfl);have t4:wr.cell? ⟨b,Q+i*5+4,none⟩=some (.slice A' u.kids.length c'):=j.cell (.inl O) (by simpa using H 4 _ rfl);have b5:=dI C i u hu;have b0:=fe C (i+1);have Y:=uJ C i u hu;have b6:=pW u;obtain⟨W4, iV⟩:=ag (wr.alloc (.cells #[.int .i64 u.kind,.string u.text,.int .i64 u.at_,.int .i64 u.end_,.slice A' u.kids.length c'] 24));have T:fK B E W W4:=by rw[<- iV];exact K.out.2.2.trans (fK.of_below (ai _ _) rfl)
    have ad:J (D++x::I) W4:=by rw[<- iV];exact HJ.out _ _ _ K.out.2.1
    have a1:I.length=aC (C.take i):=by rw[<- mK,<- K.out.1,List.length_map]
    have P:=jo.out u A' c' (n - 1) (D++x::I) W4 (by have:=HM.out;omega) HM.out.2.2.1 a7 (f.out.trans T) (by have:=T.size;omega) ad (by have:=HM.out;simp only[acm,aco];omega)
    have ze:=P.mono (R':=fun e W5=>(e= .returned (.bool true)/\Hid (∃g:List (FZ R B M),g.map (·.t)=bg (C.take (i+1))/\J (D++x::g) W5/\fK B E W W5))\/(e= .returned (.bool false)/\Hid (∃q:List (FZ R B M),q.map (·.t)<+:bg C/\Jx (D++x::q) W5)))
     (fun e W5 h=>h.elim (fun⟨h1,g,h2,v,h4⟩=>.inl ⟨h1,kH ⟨I++g,by rw[List.map_append,h2,K.out.1,Y],by simpa [List.append_assoc] using v,T.trans h4⟩⟩)
      (fun⟨h1,q,h2,v⟩=>.inr ⟨h1,kH ⟨I++q,by
       rw[List.map_append,K.out.1]
       have h5:bg (C.take i)++aM u<+:bg C:=by
        rw[<- Y];conv=>rhs;rw[<- List.take_append_drop (i+1) C,uP]
        exact List.prefix_append _ _
       exact((List.prefix_append_right_inj _).2 h2).trans h5,by simpa [List.append_assoc] using v⟩⟩))
    rw[<- iV]at ze;unfold aO at ze;have b7:IntKind.i64.wrap ((i:Int)+1)=(i:Int)+1:=IntWalk.i64_in _ (by omega);obtain⟨un, an⟩:=ag u.kids.length;rw[an]at t4 ze;clear H hT a7 j b5 b0 Y b6 iV T ad a1 P an hu K
    gi_wp2_with (first
     | ((try refine⟨aa _,?_⟩);gi_at_call 200;refine ze.mono ?_;clear ze;rintro e W5 (⟨rfl,X⟩| ⟨rfl,X⟩)))
    ·obtain⟨g,hz⟩:=X.out
     exact⟨⟨i+1,g,by simp,by omega,kH hz⟩,by simp only[intOf];omega⟩
    go_ret
    obtain⟨q,hq,r⟩:=X.out;exact .inr ⟨rfl,x::q,by rw[qQ.out,List.map_cons,d.out];exact List.cons_prefix_cons.2 ⟨rfl,hq⟩,r⟩
   have ay:i=nk:=by omega
   subst ay;have Z:C.take i=C:=by rw[<- HN.out,List.take_length]
   have H1:=K.out.1;rw[Z]at H1;gi_wp2
   go_ret
   exact .inl ⟨rfl,x::I,by rw[qQ.out,List.map_cons,d.out,H1],K.out.2.1,K.out.2.2⟩
  go_ret
  exact .inr ⟨rfl,[x],by rw[U];simp[V],b9⟩
theorem XY(F:Fence)(O:F.depth=none)(Z:F.fn 199)(u:F.fn 200)(I:F.round=none)(l T B D M:Nat)(z:B<=D)(y:M<=1000000000)(H:World)(n:Nat)(t:ae)(A:Option Addr)(c:Nat)(J K:List (FZ H B M)->World->Prop)
 (U:∀s W o,J s W->J s (W.alloc o))
 (V:∀C x W,J C W->C.length<aB t->YieldAt F (n - 1) Tryz.prog l #[aO x.t x.A x.c] W fun e G=>
  (e= .returned (.bool true)/\J (C++[x]) G/\fK B D W G)\/(e= .returned (.bool false)/\K (C++[x]) G))
 (W:World) (d:aB t<=M) (j:aD H B A 0 t.kids) (S:fK B D H W) (R:D<=W.heap.size) (E:ah W T 24 #[.int .i64 t.kind,.string t.text,.int .i64 t.at_,.int .i64 t.end_,.slice A t.kids.length c]) (Y:J [] W):
 CallsIn F n Tryz.prog 199 #[.func (.yield l) #[] #[],.pointer (some ⟨T,0,none⟩)] W fun e G=>(∃v,e= .returned v) /\
  ((∃X:List (FZ H B M),X.map (·.t)=aM t/\J X G)\/(∃C:List (FZ H B M),C.map (·.t)<+:aM t/\K C G)):=by
 have P:∀k:Nat,(F.depth.isSome=true->1<=k):=fun k h=>by rw[O]at h;cases h
 have Q:=ZV F O u I l B D M (aB t) z y H J K U (fun m C x W r g=>Xh O m (V C x W r g)) M t A c (n - 1) [] W d (ab9 _) j S R Y (by simp);unfold aO at Q;have c0:=E.cell 0;have c1:=E.cell 1;have c2:=E.cell 2;have c3:=E.cell 3;have c4:=E.cell 4;have f:=E.lt;clear V U E;refine callsIn_of_wp Tryz.func199 rfl Z ?_ I;simp only[Tryz.ntmps199,List.size_toArray,aco,List.length_nil,Nat.reduceAdd,Nat.reduceSub,Array.replicate_succ,Array.replicate_zero,List.push_toArray,List.append_toArray,List.nil_append,List.cons_append];gi_wp2_with ((try refine⟨P _,?_⟩);gi_at_call 200;refine Q.mono ?_;clear Q;rintro e b (⟨rfl,q,L,N,h4⟩| ⟨rfl,q,L,N⟩))
 ·go_end0
  exact⟨⟨_,rfl⟩,.inl ⟨q,L,by simpa using N⟩⟩
 go_end0
 exact⟨⟨_,rfl⟩,.inr ⟨q,L,by simpa using N⟩⟩
theorem yQ{β:Type}(B g:Nat)(t:TypeId)(f:β->Array Value):OwnFrom B (fun s W=>ah W g t (f s)):=fun s X Y G C E F=>ah.grown C E (fun e=>by
 obtain⟨_,o,A,D⟩:=F g e.symm;rw[show X.heap[g]? =_ from C]at A;cases A
 cases D)
theorem IX(F:Fence)(V:F.depth=none)(n:Nat)(Q:F.fn 199)(Y:F.fn 200)(H:F.round=none)(E B C M:Nat)(R:B<=C)(T:M<=1000000000)(D w:World)(t:ae)(A:Option Addr)(c:Nat)
 (z:aB t<=M) (Z:aD D B A 0 t.kids) (K:fK B C D w) (I:C<=w.heap.size) (N:ah w E 24 #[.int .i64 t.kind,.string t.text,.int .i64 t.at_,.int .i64 t.end_,.slice A t.kids.length c]):
 SeqStopsK F n Tryz.prog 199 #[.pointer (some ⟨E,0,none⟩)] (fun x:FZ D B M=> #[aO x.t x.A x.c]) (fK B C) (fun v=>v.map (·.t)=aM t) (fun L=>L.map (·.t)<+:aM t) (aB t) w:=
 fun l J O W G S _ U P=>
  XY F V Q Y H l E B C M R T D n t A c J O (fun s X o y=>S s X _ none y (World.grownBy_alloc X o none) (fun r e=>by cases e)) U W z Z (K.trans (fK.of_below G rfl)) (aca I G.size) (N.below G N.lt) P
theorem Nv(t:ae)(A:Option Addr)(c:Nat)(w:World):
 Calls Tryz.prog 142 #[aO t A c] w fun e w'=>e= .returned (.func (.func 199) #[] #[.pointer (some ⟨w.heap.size,0,none⟩)])/\w'=w.alloc (.cells #[.int .i64 t.kind,.string t.text,.int .i64 t.at_,.int .i64 t.end_,.slice A t.kids.length c] 24):=by
 unfold aO;go_in
 go_wp2_with fail
 go_ret
 exact⟨rfl,rfl⟩
theorem vR(t:ae)(A:Option Addr)(c:Nat)(w:World)(j:aB t<=1000000000)(v:aD w w.heap.size A 0 t.kids):
 Calls Tryz.prog 77 #[aO t A c] w fun e w'=>e= .returned (.int .i64 (aB t:Int))/\Below w.heap.size w w':=by
 refine(callsIn_wide (n:=6)).1 ?_;have V:=fun w'=>Nv t A c w'
 unfold aO at V⊢;refine callsIn_of_wp_marks Tryz.func77 rfl trivial ?_ rfl;simp only[Tryz.ntmps77,List.size_toArray,aco,List.length_nil,Nat.reduceAdd,Nat.reduceSub,Array.replicate_succ,Array.replicate_zero,List.push_toArray,List.append_toArray,List.nil_append,List.cons_append];gi_wp2_with (refine⟨trivial,?_⟩;gi_at_call 142;refine(callsIn_wide.2 (V _)).mono ?_;rintro e w' ⟨rfl,rfl⟩)
 have y:ah (w.alloc (.cells #[.int .i64 t.kind,.string t.text,.int .i64 t.at_,.int .i64 t.end_,.slice A t.kids.length c] 24)) w.heap.size 24 #[.int .i64 t.kind,.string t.text,.int .i64 t.at_,.int .i64 t.end_,.slice A t.kids.length c]:=ah.new w _ _;generalize F:w.alloc (.cells #[.int .i64 t.kind,.string t.text,.int .i64 t.at_,.int .i64 t.end_,.slice A t.kids.length c] 24)=W1 at y
 have N:Below w.heap.size w W1:=by rw[<- F];exact ai _ _
 have L:W1.heap.size=w.heap.size+1:=by rw[<- F];simp
 have E:ah (W1.alloc (.cells #[.int .i64 0] 3)) (w.heap.size+1) 3 #[.int .i64 0]:=by rw[<- L];exact ah.new W1 _ _
 generalize G:W1.alloc (.cells #[.int .i64 0] 3)=W2 at E
 have O:Below W1.heap.size W1 W2:=by rw[<- G];exact ai _ _
 have Q:W2.heap.size=w.heap.size+2:=by rw[<- G];simp[L]
 have U:ah (W2.alloc (.cells #[.int .i64 t.kind,.string t.text,.int .i64 t.at_,.int .i64 t.end_,.slice A t.kids.length c] 24)) (w.heap.size+1+1) 24 #[.int .i64 t.kind,.string t.text,.int .i64 t.at_,.int .i64 t.end_,.slice A t.kids.length c]:=by
  rw[show w.heap.size+1+1=W2.heap.size by omega];exact ah.new W2 _ _
 generalize H:W2.alloc (.cells #[.int .i64 t.kind,.string t.text,.int .i64 t.at_,.int .i64 t.end_,.slice A t.kids.length c] 24)=W3 at U⊢
 have I:Below W2.heap.size W2 W3:=by rw[<- H];exact ai _ _
 have M:W3.heap.size=w.heap.size+3:=by rw[<- H];simp[Q]
 have Y:=E.below I E.lt;have S:Below w.heap.size w W3:=(N.trans (O.mono (by omega))).trans (I.mono (by omega));have J:=aD.below S (ab9 _) _ _ _ v;clear F G H E y N O I L Q v;have m:1<=6:=by omega
 refine wpIn_rangeFunc_ownF rfl m (gf:=199) (lb:=#[.pointer (some ⟨w.heap.size+1+1,0,none⟩)]) rfl trivial (enters_of Tryz.func199 (by kernel_rfl) rfl)
  (IX Fence.wide rfl (6 - 1) trivial trivial rfl (w.heap.size+1+1) w.heap.size (w.heap.size+3) 1000000000 (by omega) (ab9 _) W3 W3 t A c j J (fK.refl _ _ _) (by omega) U) fK.trans (fun W l o d _ h C _=>fK.putObj d h C) (Below.refl _ _) (fun _=>rfl)
  (fun B W=>ah W (w.heap.size+1) 3 #[.int .i64 (B.length:Int)]/\Below w.heap.size w W)
  (fun _ _ _=>False)
  (OwnFrom.and (yQ _ _ _ _) (ownFrom_below (ab9 _) (by omega)))
  (fun _ _ _ _ _ g _ _=>g)
  ⟨Y,S⟩
  (fun x=> { tmps:=#[.agg #[.int .i64 t.kind,.string t.text,.int .i64 t.at_,.int .i64 t.end_,.slice A t.kids.length c],.pointer (some ⟨w.heap.size,0,none⟩),.int .i64 0,.pointer (some ⟨w.heap.size+1,0,none⟩),.agg #[.int .i64 t.kind,.string t.text,.int .i64 t.at_,.int .i64 t.end_,.slice A t.kids.length c],
   .func (.func 199) #[] #[.pointer (some ⟨w.heap.size+1+1,0,none⟩)],aO x.t x.A x.c,undef,undef,undef],defers:=[] }) ?assign ?body ?done ?stop
 case assign=>
  intro l x W K T;gi_wp2
  simpa using T
 case body=>
  rintro l B x W ⟨C,P⟩ hl;have q:=C.cell 0;have f0:=C.frozen 0;have k:=C.lt;have f:IntKind.i64.wrap ((B.length:Int)+1)=(B.length:Int)+1:=IntWalk.i64_in _ (by omega);have iJ:=kH M;have r:=kH C;have X:=kH P;clear J Y U S V C P M;gi_wp2
  exact⟨KeepsOthers.setCell _ _ _,fK.setCell _ _ (by show w.heap.size<=w.heap.size+1;omega) (by show w.heap.size+1<w.heap.size+3;omega),by simpa using r.out.dB 0 (.int .i64 ((B.length:Int)+1)),X.out.setCell (p:=⟨w.heap.size+1,0,none⟩) (by show w.heap.size<=w.heap.size+1;omega) _⟩
 case done=>
  rintro D b W hD R ⟨C,P⟩ T;have q:=C.cell 0;have u:b.length=aB t:=by rw[<- eZ,<- R,List.length_map]
  have z:=kH T;have X:=kH P;have Z:w.heap.size<=D:=by omega
  clear J Y U S V C P M T R;gi_wp2
  refine⟨by simp,.inl ⟨_,_,rfl,run_takeDeferred z.out,?_⟩⟩;refine⟨_,results_tmp rfl _ _ _,?_⟩;exact⟨rfl,X.out.trans (belowK_b (w:=w) (ab9 _) W D _ _ Z z.out rfl rfl)⟩
 rintro D c B W _ _ h _;exact h.elim
end Go.Proofs.YtoepemlnlpamlaaGreat
namespace Go.Proofs.YtoepemlnlpamlaaGreat
open Go.RowKit
theorem Od(l:lL)(m:Nat)(x:ByteArray)(n:Nat)(w:World)(F:aY jS w m (jM l)):
 Calls Tryz.prog 144 #[.map (some m),.string x,.int .i64 (n:Int)] w fun e w'=>e= .returned (.tuple #[])/\aY jS w' m (jM (kY l x n))/\ak (fun g=>g=m) w w':=by
 have A:=oH w m l F x
 cases C:bK l x with
 | some k=>
  have D:kY l x n=l:=by unfold kY aV;rw[C];rfl
  rw[D];rw[C]at A;simp only[Option.getD_some,Option.isSome_some]at A;have I:=kH F;clear F D C;go_in
  go_wp2_with fail
  go_end0
  exact⟨rfl,I.out,ak.refl _ _⟩
 | none=>
  have D:kY l x n=dZ l x (n:Int):=by unfold kY aV;rw[C];rfl
  rw[D];rw[C]at A;simp only[Option.getD_none,Option.isSome_none]at A;have I:=kH F;clear F D C;go_in
  obtain⟨N,G,B,E,J⟩:=iO (P:=Tryz.prog) (KK:=jS) (t:=70) (kt:=9) (et:=3) Tryz.underlying70 Tryz.underlying9 I.out x (.int .i64 (n:Int));change (Instr.mapUpdate 70 (.map (some m)) (Value.string x) (.int .i64 (n:Int))).run Tryz.prog w=_ at G;have H:ak (fun g=>g=m) w N:=(ak.refl (fun g=>g=m) w).grown E (fun k L=>by cases L;exact .inl rfl);rw[JG]at B;have M:=kH B;have K:=kH H;clear B E J H;go_wp2_with fail
  go_end0
  exact⟨rfl,M.out,K.out⟩
theorem FY:∀(a:List ae) (f:ae) (n:Nat) (l:lL),jG (a++[f]) n l=if f.kind=4 then kY (jG a n l) f.text ((n+aC a:Nat):Int) else jG a n l
 | [],f,n,l=>rfl
 | g::a,f,n,l=>by
  show jG (a++[f]) (n+aB g) _=_;rw[FY a,aC];show(if _ then kY (jG a (n+aB g) _) _ _ else jG a (n+aB g) _)=_;rw[show n+aB g+aC a=n+(aB g+aC a) by omega];rfl
theorem FX:∀(a:List ae) (k:ae) (n:Nat) (g:bf),kU (a++[k]) n g=⟨kY (kU a n g).globals k.text ((n+aC a:Nat):Int),jG k.kids (n+aC a+1) (kU a n g).fields,dZ (kU a n g).kinds ((n+aC a:Nat):Int) k.kind⟩
 | [],k,n,g=>rfl
 | j::a,k,n,g=>by
  show kU (a++[k]) (n+aB j) _=_;rw[FX a,aC];rw[show n+aB j+aC a=n+(aB j+aC a) by omega];rfl
theorem yU{A:Type}{l:List A}{i:Nat}{x:A}(h:l[i]? =some x):l.take (i+1)=l.take i++[x]:=by
 rw[List.take_add_one,h];rfl
theorem PQ(l:List (Int×Int))(x n:Int):oD (uD l) x (.int .i64 n)=uD (dZ l x n):=JF (Value.int .i64) x n l
structure CG (g f k:Nat) (G:bf) (w:World):Prop where
 gl:aY jS w g (jM G.globals)
 fl:aY jS w f (jM G.fields)
 kn:aY iU w k (uD G.kinds)
theorem CG.below{g f k:Nat}{G:bf}{w w':World}(h:CG g f k G w)(A:Below w.heap.size w w'):CG g f k G w':=⟨h.gl.Jm A,h.fl.Jm A,h.kn.Jm A⟩
theorem aD.since{w w':World}{B:Nat}{S:Nat->Prop}(E:ak S w w')(C:B<=w.heap.size)(D:∀g,S g->B<=g){ts:List ae}{A:Option Addr}{i:Nat}(h:aD w B A i ts):aD w' B A i ts:=
 aD.below (E.toBelow C D) (ab9 _) _ _ _ h
theorem Ti(y g f D B:Nat)(a3 a4 a5 a6 a7 a8:Value)(w:World)(hb:ah w y 75 #[.map (some g),.map (some f),.map (some D),a3,a4,a5,a6,a7,a8])(hG:CG g f D ⟨[],[],[]⟩ w)(bx:g≠f/\g≠D/\f≠D)(hB:B<=g/\B<=f/\B<=D/\B<=w.heap.size)
 (t:ae) (A:Option Addr) (c:Nat) (hm:aB t<=1000000000) (hk:aD w B A 0 t.kids):
 Calls Tryz.prog 78 #[.pointer (some ⟨y,0,none⟩),aO t A c] w fun e w'=>e= .returned (.tuple #[])/\CG g f D (fC t) w'/\ak (fun x=>x=g\/x=f\/x=D) w w':=by
 have br:fC t=kU t.kids 1 ⟨[],[],[]⟩:=rfl;have b4:=mY t;obtain⟨C, lF⟩:=ag t.kids;obtain⟨k0,x0,a0,z0,n,-,-,-,-,hn,hv⟩:=aW t A c;rw[hv,br];rw[lF]at hk hn b4⊢;have c6:=dO C;have hS:∀x,(x=g\/x=f\/x=D)->B<=x:=by intro x hx;omega
 have R5:=kH hS;have F7:=kH hB;have HK:=kH hk;have HN:=kH hn;have Ie:=kH b4;have HM:Hid (1+aC C<=1000000000):=kH (by omega);have HG:=kH hG;have HB:=kH hb;have fw:=kH bx;have cE:n<=1000000000:=by omega
 have cy:=hb.lt;clear hk b4 hm lF hn c6 hv br hS hB hG hb bx;go_in
 go_wp2_with fail
 generalize bo:w.alloc (.cells #[.int .i64 k0,.string x0,.int .i64 a0,.int .i64 z0,.slice A n c] 24)=W1
 have b3:Below w.heap.size w W1:=by rw[<- bo];exact ai _ _
 have Ht:Hid (ak (fun x=>x=g\/x=f\/x=D) w W1):=kH ((ak.refl _ w).below b3);have bP:=kH (HG.out.below b3);clear bo b3;go_loopg [4,14] n (fun gk s4 PV wr=> ∃i:Nat,i+gk=n/\s4= .int .i64 ((1+aC (C.take i):Nat):Int)/\PV= .int .i64 (i:Int)/\Hid (CG g f D (kU (C.take i) 1 ⟨[],[],[]⟩) wr)/\Hid (ak (fun x=>x=g\/x=f\/x=D) w wr))
 case atStart=>exact⟨0,by omega,by simp[aC],rfl,bP,Ht⟩
 obtain⟨i,hi,rfl,rfl,Sj,Uw⟩:=hrel;have HI:=kH hi;have cz:i<=n:=by omega
 clear hi;by_cases cf:i<n
 ·have cg:(i:Int)<(n:Int):=by omega
  obtain⟨u,hu⟩:∃u,C[i]? =some u:=⟨_,ace (by rw[HN.out];exact cf)⟩
  have E:Below B w wr:=Uw.out.toBelow F7.out.2.2.2 R5.out;obtain⟨vals,⟨b,V,hA,Q,F⟩,hT⟩:=HK.out.get i u hu;obtain⟨A',c',iY,b1⟩:=hT.five;subst hA;subst iY;have QC:=Uw.out.size;have R:=F7.out.2.2.2;have cx:b<wr.heap.size:=by omega
  obtain⟨q, nJ⟩:=ag u.kind;obtain⟨l, oI⟩:=ag u.text;obtain⟨ua, qm⟩:=ag u.at_;obtain⟨uz, rP⟩:=ag u.end_;obtain⟨I, MN⟩:=ag u.kids;obtain⟨m, ar⟩:=ag I.length;have W:wr.cell? ⟨b,V+i*5,none⟩=some (.int .i64 q):=(E.cell (p:=⟨b,_,none⟩) Q).trans (by rw[<- nJ];simpa using F 0 _ rfl);have t1:wr.cell? ⟨b,V+i*5+1,none⟩=some (.string l):=(E.cell (p:=⟨b,_,none⟩) Q).trans (by rw[<- oI];simpa using F 1 _ rfl);have t2:wr.cell? ⟨b,V+i*5+2,none⟩=some (.int .i64 ua):=(E.cell (p:=⟨b,_,none⟩) Q).trans (by rw[<- qm];simpa using F 2 _ rfl);have t3:wr.cell? ⟨b,V+i*5+3,none⟩=some (.int .i64 uz):=(E.cell (p:=⟨b,_,none⟩) Q).trans (by rw[<- rP];simpa using F 3 _ rfl);have t4:wr.cell? ⟨b,V+i*5+4,none⟩=some (.slice A' m c'):=(E.cell (p:=⟨b,_,none⟩) Q).trans (by rw[<- ar,<- MN];simpa using F 4 _ rfl)
  have UE:Hid (ah wr y 75 #[.map (some g),.map (some f),.map (some D),a3,a4,a5,a6,a7,a8]):=kH (HB.out.since Uw.out (fun e=>by
   have G:w.heap[y]? =some (Obj.cells _ _ (0,0)):=HB.out;rcases e with e|e|e
   ·obtain⟨es,ck,z⟩:=HG.out.gl.isMap
    rw[<- e,G]at z;cases z
   ·obtain⟨es,ck,z⟩:=HG.out.fl.isMap
    rw[<- e,G]at z;cases z
   obtain⟨es,ck,z⟩:=HG.out.kn.isMap
   rw[<- e,G]at z;cases z))
  rw[MN]at b1;have ba:=kH b1;have bX:=kH hu
  have Wo:∀Z,ak (fun x=>x=g\/x=f\/x=D) w Z->Calls Tryz.prog 77 #[aO u A' c'] Z fun e w'=>e= .returned (.int .i64 (aB u:Int))/\Below Z.heap.size Z w':=fun Z hZ=>
   vR u A' c' Z (by have G:=dI C i u bX.out;have h2:=fe C (i+1);have h3:=HM.out;omega) (aD.mono (aca R hZ.size) _ _ _ (aD.since hZ R R5.out (by rw[MN];exact ba.out)))
  unfold aO at Wo;rw[nJ,oI,qm,rP,MN,ar]at Wo;have Sm:=kH Wo;clear Wo;have c8:=UE.out.lt;have d0:=UE.out.cell 0;have d1:=UE.out.cell 1;have d2:=UE.out.cell 2;have HU:=kH hu;have az:=kH ar;clear F hT b1 hu E ar;go_wp2_with fail
  generalize hX:wr.alloc (.cells #[.int .i64 q,.string l,.int .i64 ua,.int .i64 uz,.slice A' m c'] 24)=X
  have aq:Below wr.heap.size wr X:=by rw[<- hX];exact ai _ _
  have FT:ah X wr.heap.size 24 #[.int .i64 q,.string l,.int .i64 ua,.int .i64 uz,.slice A' m c']:=by rw[<- hX];exact ah.new wr _ _
  have Me:Hid (ak (fun x=>x=g\/x=f\/x=D) w X):=kH (Uw.out.below aq);have Mk:=kH (Sj.out.below aq);have an:=UE.out.below aq c8;obtain⟨num, r9⟩:=ag (1+aC (C.take i));rw[r9]at⊢;have Dk:=kH r9;obtain⟨N, b0⟩:=ag (kU (C.take i) 1 ⟨[],[],[]⟩);rw[b0]at Mk;have uy:=kH b0
  have J:Hid (∀{r:Nat}{t:TypeId}{cs:Array Value}{x:Nat}{w':World},ah w' r t cs->(∃es ck,w'.heap[x]? =some (.map es ck))->r≠x):=kH (fun hb ⟨es,ck,z⟩ e=>by
   subst e;have G:_=some (Obj.cells _ _ (0,0)):=hb
   rw[z]at G;cases G)
  have Hr:=kH FT;have Jw:=kH an
  have DX:∀W':World,ak (fun x=>x=g) X W'->W'.cell? ⟨y,0,none⟩=some (.map (some g))/\W'.cell? ⟨wr.heap.size,1,none⟩=some (.string l):=fun W' hs=>by
   have G:=Jw.out.since hs (fun e=>J.out Jw.out Mk.out.gl.isMap e);have h2:=Hr.out.since hs (fun e=>J.out Hr.out Mk.out.gl.isMap e);exact⟨G.cell 0,h2.cell 1⟩
  have R6:=kH DX;have cc:=FT.lt;have cl:=an.lt;have e0:=an.cell 0;have e1:=FT.cell 1;have T:ak (fun x=>x=g) X X.drew:=(ak.refl _ X).drew;clear hX aq FT an r9 b0 UE d0 d1 d2 W t1 t2 t3 t4 DX Uw Sj;go_region_held3 (fun w'=>w'.cell? ⟨y,0,none⟩=some (.map (some g))/\w'.cell? ⟨wr.heap.size,1,none⟩=some (.string l)) (exact R6.out _ (by assumption)) ((go_at_call 144;refine(Od N.globals g l num X.drew (aY.drew Mk.out.gl)).mono ?_;rintro e w2 ⟨rfl,bw,b5⟩;have L:=T.trans b5))
  have bk:CG g f D ⟨kY N.globals l num,N.fields,N.kinds⟩ w2:=⟨bw,Mk.out.fl.since L (fun e=>fw.out.1 e.symm),Mk.out.kn.since L (fun e=>fw.out.2.1 e.symm)⟩
  have al:=Jw.out.since L (fun e=>J.out Jw.out Mk.out.gl.isMap e);have gN:=Hr.out.since L (fun e=>J.out Hr.out Mk.out.gl.isMap e);have bc:Hid (ak (fun x=>x=g\/x=f\/x=D) w w2):=kH (Me.out.step L (fun x e=>.inl (.inl e)));have bh:Hid (wr.heap.size<w2.heap.size/\w.heap.size<=wr.heap.size):=kH ⟨gN.lt,QC⟩;have K:=kH bk;have av:=kH al;have ay:=kH gN;have e2:=al.cell 2;have W:=gN.cell 0;have cb:=gN.lt;have cj:=al.lt;clear L b5 T bw bk al gN Mk Me Hr Jw R6 cc cl e0 e1;go_wp2_with fail
  refine dF (fun w'=>w'.cell? ⟨y,2,none⟩=some (.map (some D))/\w'.cell? ⟨wr.heap.size,0,none⟩=some (.int .i64 q)) [7] [true,true,true,true,true,true,true,false] (by kernel_rfl) (by kernel_rfl) rfl (by kernel_rfl) ?_;have c0:w2.drew.cell? ⟨y,2,none⟩=some (.map (some D))/\w2.drew.cell? ⟨wr.heap.size,0,none⟩=some (.int .i64 q):=⟨e2,W⟩
  iterate 7(refine eD rfl c0 (by intro w' c1;obtain⟨cF,b5⟩:=c1;go_simp;rfl) ?_;simp only[Act.put,sA,sZ,sC])
  obtain⟨w4,S,GR,bt,wN⟩:=iO (P:=Tryz.prog) (KK:=iU) (t:=71) (kt:=3) (et:=3) Tryz.underlying71 Tryz.underlying3 (aY.drew K.out.kn) (num:Int) (.int .i64 q);change (Instr.mapUpdate 71 (.map (some D)) (Value.int .i64 (num:Int)) (.int .i64 q)).run Tryz.prog w2.drew=_ at S;have M:ak (fun g=>g=D) w2 w4:=((ak.refl (fun g=>g=D) w2).drew).grown bt (fun k hk=>by cases hk;exact .inl rfl);rw[PQ]at GR;have bl:CG g f D ⟨kY N.globals l num,N.fields,dZ N.kinds (num:Int) q⟩ w4:=⟨K.out.gl.since M (fun e=>fw.out.2.1 e),K.out.fl.since M (fun e=>fw.out.2.2 e),GR⟩
  have bj:=av.out.since M (fun e=>J.out av.out K.out.kn.isMap e);have YD:=ay.out.since M (fun e=>J.out ay.out K.out.kn.isMap e);have bd:Hid (ak (fun x=>x=g\/x=f\/x=D) w w4):=kH (bc.out.step M (fun x e=>.inl (.inr (.inr e))));have cw:Hid (wr.heap.size<w4.heap.size/\w.heap.size<=wr.heap.size):=kH ⟨YD.lt,bh.out.2⟩;have OD:=kH bl;have Al:=kH bj;have ad:=kH YD;have f4:=YD.cell 4;have cC:=YD.lt;refine gH (w':=w4) rfl (by simp[execOp,Act.eval,S,Result.andThen]) (by simp) ?_;refine gp ?_;simp only[Act.put];obtain⟨Um, aE⟩:=ag N.fields;rw[aE]at OD;have bM:=kH aE;have MS:(num:Int)<=1000000000:=by have:=fe C i;have:=Dk.out;have:=HM.out;omega
  have cH:IntKind.i64.wrap ((num:Int)+1)=(num:Int)+1:=IntWalk.i64_in _ (by omega)
  have af:Hid (1+aC I=aB u/\num+aB u<=1000000000):=kH (by
   have G:=mY u;have h2:=dI C i u HU.out;have h3:=fe C (i+1);have h4:=Dk.out;have h5:=HM.out;rw[MN]at G
   exact⟨by omega,by omega⟩)
  have cG:m<=1000000000:=by have:=af.out;have:=dO I;have:=az.out;omega
  clear M bl bj YD GR bt wN S K av ay bc bh e2 W cb cj aE;go_wp2_with fail
  obtain⟨wo,cp⟩:∃wo:World,wo=wr:=⟨_,rfl⟩
  subst cp;obtain⟨go,c7⟩:∃go:Nat,go=gk:=⟨_,rfl⟩
  subst c7;go_loopg [8,39] m (fun gk s8 cr wr=> ∃j:Nat,j+gk=m/\s8= .int .i64 ((num+1+aC (I.take j):Nat):Int)/\cr= .int .i64 (j:Int)/\Hid (CG g f D ⟨kY N.globals l num,jG (I.take j) (num+1) Um,dZ N.kinds (num:Int) q⟩ wr)/\Hid (ak (fun x=>x=g\/x=f\/x=D) w4 wr))
  case atStart=>exact⟨0,by omega,by simp[aC],rfl,OD,kH (ak.refl _ _)⟩
  obtain⟨j,hj,rfl,rfl,ax,Ow⟩:=hrel;have HJ:=kH hj;have cA:j<=m:=by omega
  have Zz:Hid (ak (fun x=>x=g\/x=f\/x=D) w wr):=kH (bd.out.trans Ow.out)
  have H:=ad.out.since Ow.out (fun e=>by
   rcases e with e|e|e
   ·exact J.out ad.out OD.out.gl.isMap e
   ·exact J.out ad.out OD.out.fl.isMap e
   exact J.out ad.out OD.out.kn.isMap e)
  have ao:=Al.out.since Ow.out (fun e=>by
   rcases e with e|e|e
   ·exact J.out Al.out OD.out.gl.isMap e
   ·exact J.out Al.out OD.out.fl.isMap e
   exact J.out Al.out OD.out.kn.isMap e)
  clear hj;by_cases c9:j<m
  ·have ca:(j:Int)<(m:Int):=by omega
   obtain⟨v,hv⟩:∃v,I[j]? =some v:=⟨_,ace (by rw[az.out];exact c9)⟩
   have E:Below B w wr:=Zz.out.toBelow F7.out.2.2.2 R5.out;obtain⟨vals,⟨O,ob,bZ,QY,F⟩,gN⟩:=ba.out.get j v hv;obtain⟨A2,c2,iY,bn⟩:=gN.five;subst bZ;subst iY;have cI:=Zz.out.size;have R:=F7.out.2.2.2;have c5:O<wr.heap.size:=by omega
   have O6:∀Z,ak (fun x=>x=g\/x=f\/x=D) w Z->Calls Tryz.prog 77 #[aO v A2 c2] Z fun e w'=>e= .returned (.int .i64 (aB v:Int))/\Below Z.heap.size Z w':=fun Z hZ=>
    vR v A2 c2 Z (by have G:=dI I j v hv;have h2:=fe I (j+1);have h3:=af.out;omega) (aD.mono (aca R hZ.size) _ _ _ (aD.since hZ R R5.out bn))
   unfold aO at O6;obtain⟨vk, au⟩:=ag v.kind;obtain⟨vx, Ld⟩:=ag v.text;obtain⟨va, b7⟩:=ag v.at_;obtain⟨vz, b8⟩:=ag v.end_;obtain⟨vn, qj⟩:=ag v.kids.length;obtain⟨cv, bs⟩:=ag (aB v);rw[au,Ld,b7,b8,qj,bs]at O6;have W:wr.cell? ⟨O,ob+j*5,none⟩=some (.int .i64 vk):=(E.cell (p:=⟨O,_,none⟩) QY).trans (by rw[<- au];simpa using F 0 _ rfl);have t1:wr.cell? ⟨O,ob+j*5+1,none⟩=some (.string vx):=(E.cell (p:=⟨O,_,none⟩) QY).trans (by rw[<- Ld];simpa using F 1 _ rfl);have t2:wr.cell? ⟨O,ob+j*5+2,none⟩=some (.int .i64 va):=(E.cell (p:=⟨O,_,none⟩) QY).trans (by rw[<- b7];simpa using F 2 _ rfl);have t3:wr.cell? ⟨O,ob+j*5+3,none⟩=some (.int .i64 vz):=(E.cell (p:=⟨O,_,none⟩) QY).trans (by rw[<- b8];simpa using F 3 _ rfl);have t4:wr.cell? ⟨O,ob+j*5+4,none⟩=some (.slice A2 vn c2):=(E.cell (p:=⟨O,_,none⟩) QY).trans (by rw[<- qj];simpa using F 4 _ rfl);obtain⟨at_, b2⟩:=ag (num+1+aC (I.take j));have b6:at_+cv<=1000000000:=by have G:=dI I j v hv;have h2:=fe I (j+1);have h3:=af.out;omega
   have cq:IntKind.i64.wrap ((at_:Int)+(cv:Int))=(at_:Int)+(cv:Int):=IntWalk.i64_in _ (by omega);have T9:IntKind.i64.wrap ((j:Int)+1)=(j:Int)+1:=IntWalk.i64_in _ (by omega);have ab:((at_:Int)+(cv:Int))=((num+1+aC (I.take (j+1)):Nat):Int):=by have G:=dI I j v hv;omega
   have bp:jG (I.take (j+1)) (num+1) Um=if vk=4 then kY (jG (I.take j) (num+1) Um) vx (at_:Int) else jG (I.take j) (num+1) Um:=by
    rw[yU hv,FY,au,Ld,b2]
   rw[b2];have d:=kH bp;have bN:=kH ab;have b9:=kH O6;have c4:=H.lt;have cn:=ao.lt;have ct:=kH H;have bI:=kH ao;clear F gN bn hv E bp ab O6 au Ld b7 b8 qj bs b2 H ao;by_cases bG:vk=4
   ·subst bG
    rw[if_pos rfl]at d;go_wp2_with fail
    generalize hY:wr.alloc (.cells #[.int .i64 4,.string vx,.int .i64 va,.int .i64 vz,.slice A2 vn c2] 24)=Y
    have gM:Below wr.heap.size wr Y:=by rw[<- hY];exact ai _ _
    have xL:ah Y wr.heap.size 24 #[.int .i64 4,.string vx,.int .i64 va,.int .i64 vz,.slice A2 vn c2]:=by rw[<- hY];exact ah.new wr _ _
    have Ux:Hid (ak (fun x=>x=g\/x=f\/x=D) w4 Y):=kH (Ow.out.below gM);have Sk:=kH (ax.out.below gM);have mX:=bI.out.below gM cn;have Ef:=kH xL;have OE:=kH mX
    have DX:∀W':World,ak (fun x=>x=f) Y W'->W'.cell? ⟨y,1,none⟩=some (.map (some f))/\W'.cell? ⟨wr.heap.size,1,none⟩=some (.string vx):=fun W' hs=>by
     have G:=OE.out.since hs (fun e=>J.out OE.out Sk.out.fl.isMap e);have h2:=Ef.out.since hs (fun e=>J.out Ef.out Sk.out.fl.isMap e);exact⟨G.cell 1,h2.cell 1⟩
    have R6:=kH DX;have cd:=xL.lt;have cm:=mX.lt;have e0:=mX.cell 1;have e1:=xL.cell 1;have T:ak (fun x=>x=f) Y Y.drew:=(ak.refl _ Y).drew;clear hY gM xL mX DX W t1 t2 t3 t4;go_region_held3 (fun w'=>w'.cell? ⟨y,1,none⟩=some (.map (some f))/\w'.cell? ⟨wr.heap.size,1,none⟩=some (.string vx)) (exact R6.out _ (by assumption)) ((go_at_call 144;refine(Od (jG (I.take j) (num+1) Um) f vx at_ Y.drew (aY.drew Sk.out.fl)).mono ?_;rintro e w6 ⟨rfl,QP,bB⟩;have U:=T.trans bB))
    have bm:CG g f D ⟨kY N.globals l num,kY (jG (I.take j) (num+1) Um) vx (at_:Int),dZ N.kinds (num:Int) q⟩ w6:=⟨Sk.out.gl.since U (fun e=>fw.out.1 e),QP,Sk.out.kn.since U (fun e=>fw.out.2.2 e.symm)⟩
    have Q8:=Ef.out.since U (fun e=>J.out Ef.out Sk.out.fl.isMap e);have a1:Hid (ak (fun x=>x=g\/x=f\/x=D) w4 w6):=kH (Ux.out.step U (fun x e=>.inl (.inr (.inl e))));have W:=Q8.cell 0;have t1:=Q8.cell 1;have t2:=Q8.cell 2;have t3:=Q8.cell 3;have t4:=Q8.cell 4;have zb:=Q8.lt;have bT:=kH bm;clear U bB T QP bm Q8 Sk Ux Ef OE R6 cd cm e0 e1;go_wp2_with fail
    refine(b9.out w6 (bd.out.trans a1.out)).mono ?_;rintro e w7 ⟨rfl,jP⟩;have sM:=kH jP;clear jP W t1 t2 t3 t4;go_wp2_with fail
    go_roundg (gk - 1)
    case measure=>have:=HJ.out;omega
    exact⟨j+1,by have:=HJ.out;omega,by rw[bN.out],by simp,kH (by rw[d.out];exact bT.out.below sM.out),kH (a1.out.below sM.out)⟩
   rw[if_neg bG]at d;go_wp2_with fail
   refine(b9.out _ (Zz.out.below (ai _ _))).mono ?_;rintro e w7 ⟨rfl,jP⟩;have sM:Hid (Below wr.heap.size wr w7):=kH ((ai _ _).trans (jP.mono (by simp)));clear jP W t1 t2 t3 t4;go_wp2_with fail
   go_roundg (gk - 1)
   case measure=>have:=HJ.out;omega
   exact⟨j+1,by have:=HJ.out;omega,by rw[bN.out],by simp,kH (by rw[d.out];exact ax.out.below sM.out),kH (Ow.out.below sM.out)⟩
  have sW:j=m:=by omega
  have W:=H.cell 0;have t1:=H.cell 1;have t2:=H.cell 2;have t3:=H.cell 3;have t4:=H.cell 4;have cD:=H.lt
  have aw:Hid (CG g f D (kU (C.take (i+1)) 1 ⟨[],[],[]⟩) wr):=kH (by
   have G:=ax.out;rw[sW,<- az.out,List.take_length]at G;rw[yU HU.out,FX,uy.out,Dk.out,oI,MN,nJ,bM.out]
   exact G)
  have bN:Hid (((num:Int)+(aB u:Int))=((1+aC (C.take (i+1)):Nat):Int)):=kH (by
   have G:=dI C i u HU.out;have h2:=Dk.out
   omega)
  have iR:=Sm.out wr Zz.out;obtain⟨cu, aa⟩:=ag (aB u);rw[aa]at iR bN;have b6:num+cu<=1000000000:=by have:=af.out;omega
  have cq:IntKind.i64.wrap ((num:Int)+(cu:Int))=(num:Int)+(cu:Int):=IntWalk.i64_in _ (by omega);have NL:IntKind.i64.wrap ((i:Int)+1)=(i:Int)+1:=IntWalk.i64_in _ (by omega);have HC:=kH iR;clear H ao iR aa sW;go_wp2_with fail
  refine HC.out.mono ?_;rintro e w7 ⟨rfl,jP⟩;have sM:=kH jP;clear jP W t1 t2 t3 t4;go_wp2_with fail
  go_roundg (go - 1)
  case measure=>have:=HI.out;omega
  exact⟨i+1,by have:=HI.out;omega,by rw[bN.out],by simp,kH (aw.out.below sM.out),kH (Zz.out.below sM.out)⟩
 have bu:i=n:=by omega
 have aw:Hid (CG g f D (kU C 1 ⟨[],[],[]⟩) wr):=kH (by
  have G:=Sj.out;rw[bu,<- HN.out,List.take_length]at G
  exact G)
 clear bu;go_wp2_with fail
 go_end0
 exact⟨rfl,aw.out,Uw.out⟩
end Go.Proofs.YtoepemlnlpamlaaGreat
namespace Go.Proofs.YtoepemlnlpamlaaGreat
def aI(r:RS)(i:Bool)(v:List Int):RS:={ r with next:=r.next+1,aP:=if i then dZ r.aP (r.next:Int) v else r.aP }
def ik(G:bf)(s:aR)(r u:RS)(t:ae):RS:=
 if t.kind=20 then iw u r.next t (fF s t.text)
 else if t.kind=22 then iw u r.next t (aV G.fields t.text)
 else if t.kind=27 then iw u r.next t (aV G.globals t.text)
 else if t.kind=19 then iw u r.next t ((aV G.globals t.text).filter fun j=>decide (jN G j=5))
 else if t.kind=9/\ek t.text=false then iw u r.next t ((aV G.globals t.text).filter fun j=>decide (jN G j=3))
 else u
theorem dz(G:bf)(i:Bool)(k:Int)(x:ByteArray)(a e:Int)(A:List ae)(s:aR)(r:RS):aK G i (.node k x a e A) s r=
 if k=3 then aj G i A 0 A.length s { aX (aI r i (aF (aH s))) 0 r.next (.node k x a e A) (decide ((aV G.globals x).getD 0≠(r.next:Int))) with owner:=(r.next:Int) }
 else if k=4 then aj G i A 0 A.length s (aX (aI r i (aF (aH s))) 1 r.next (.node k x a e A) (decide ((aV G.fields x).getD 0≠(r.next:Int))))
 else if k=5 then((aj G true A 2 1 ([]::(aj G false A 0 2 [[]] { aX (aI r i (aF (aH s))) 2 r.next (.node k x a e A) (decide ((aV G.globals x).getD 0≠(r.next:Int))) with owner:=(r.next:Int) }).2) (aj G false A 0 2 [[]] { aX (aI r i (aF (aH s))) 2 r.next (.node k x a e A) (decide ((aV G.globals x).getD 0≠(r.next:Int))) with owner:=(r.next:Int) }).1).1,s)
 else if k=7\/k=8 then aj G i A 0 A.length (aJ G (aI r i (aF (aH s))) 3 r.next (.node k x a e A) s).2 (aJ G (aI r i (aF (aH s))) 3 r.next (.node k x a e A) s).1
 else if k=11 then((aj G i A 0 A.length ([]::s) (aI r i (aF (aH s)))).1,(aj G i A 0 A.length ([]::s) (aI r i (aF (aH s)))).2.tail)
 else if k=12 then((aj G i A 0 2 s (aJ G (aI r i (aF (aH s))) 4 r.next (.node k x a e A) ([]::s)).1).1,lh (aj G i A 0 2 s (aJ G (aI r i (aF (aH s))) 4 r.next (.node k x a e A) ([]::s)).1).2 ((aJ G (aI r i (aF (aH s))) 4 r.next (.node k x a e A) ([]::s)).2.headD []))
 else if k=16 then((aj G i A 2 1 ((aJ G (aI r i (aF (aH s))) 5 r.next (.node k x a e A) ([]::s)).2.headD []::(aj G i A 0 2 s (aJ G (aI r i (aF (aH s))) 5 r.next (.node k x a e A) ([]::s)).1).2) (aj G i A 0 2 s (aJ G (aI r i (aF (aH s))) 5 r.next (.node k x a e A) ([]::s)).1).1).1,
  (aj G i A 2 1 ((aJ G (aI r i (aF (aH s))) 5 r.next (.node k x a e A) ([]::s)).2.headD []::(aj G i A 0 2 s (aJ G (aI r i (aF (aH s))) 5 r.next (.node k x a e A) ([]::s)).1).2) (aj G i A 0 2 s (aJ G (aI r i (aF (aH s))) 5 r.next (.node k x a e A) ([]::s)).1).1).2.tail)
 else aj G i A 0 A.length s (ik G s r (aI r i (aF (aH s))) (.node k x a e A)):=by
 rw[aK];rfl
mutual
def Ed:ae->Bool
 | .node k _ _ _ kids=>decide (k≠2/\k≠3/\k≠4/\k≠5)&&(decide (k≠12) || decide (kids.length=2))&&(decide (k≠16) || decide (kids.length=3))&&lH kids
def lH:List ae->Bool
 | []=>true
 | t::ts=>Ed t&&lH ts
end
theorem RN{ts:List ae}:lH ts=true->∀t∈ts,Ed t=true:=by
 induction ts with
 | nil=>intro _ t h;cases h
 | cons a ts ih=>
  intro h t A;rw[lH,acb]at h;rcases List.mem_cons.1 A with rfl|A
  ·exact h.1
  exact ih h.2 t A
def di(s:aR):List (List ByteArray):=s.map fun l=>l.map (·.1)
theorem DI{K V:Type}[DecidableEq K]:∀(l:List (K×V)) (k:K),(bK l k).isSome=(l.map (·.1)).any fun y=>decide (k=y)
 | [],_=>rfl
 | x::l,k=>by
  rw[bK,List.map_cons,List.any_cons];by_cases h:k=x.1
  ·rw[if_pos h,decide_eq_true h];rfl
  rw[if_neg h,decide_eq_false h,DI l k];rfl
theorem C8:∀(s:aR) (x:ByteArray),(fF s x).isSome=(di s).any fun l=>l.any fun y=>decide (x=y)
 | [],_=>rfl
 | l::s,x=>by
  have B:(bK l x).isSome=_:=DI l x;have A:=C8 s x;unfold di at A⊢;rw[List.map_cons,List.any_cons,<- B,<- A];rw[fF]
  cases h:aV l x with
  | none=>rw[show bK l x=none from h];rfl
  | some k=>rw[show bK l x=some k from h];rfl
theorem Jk{s1 A:aR}(h:di s1=di A)(x:ByteArray):(fF s1 x).isSome=(fF A x).isSome:=by
 rw[C8,C8,h]
theorem Nn{K V W:Type}[DecidableEq K]:∀(l:List (K×V)) (m:List (K×W)) (k:K) (v:V) (u:W),l.map (·.1)=m.map (·.1)->(dZ l k v).map (·.1)=(dZ m k u).map (·.1)
 | [],[],_,_,_,_=>rfl
 | [],_::_,_,_,_,h=>by cases h
 | _::_,[],_,_,_,h=>by cases h
 | x::l,y::m,k,v,u,h=>by
  simp only[List.map_cons,List.cons.injEq]at h;rw[dZ,dZ,h.1];by_cases A:k=y.1
  ·rw[if_pos A,if_pos A,List.map_cons,List.map_cons,h.2]
  rw[if_neg A,if_neg A,List.map_cons,List.map_cons,h.1,Nn l m k v u h.2]
theorem LG:∀(a b l m:lL),l.map (·.1)=m.map (·.1)->a.map (·.1)=b.map (·.1)->(l.foldl (fun a y=>dZ a y.1 y.2) a).map (·.1)=(m.foldl (fun a y=>dZ a y.1 y.2) b).map (·.1)
 | _,_,[],[],_,h=>h
 | _,_,[],_::_,h,_=>by cases h
 | _,_,_::_,[],h,_=>by cases h
 | a,b,x::l,y::m,h,h2=>by
  simp only[List.map_cons,List.cons.injEq]at h;rw[List.foldl_cons,List.foldl_cons];refine LG _ _ l m h.2 ?_;rw[h.1];exact Nn a b _ _ _ h2
theorem Hl{s1 A:aR}{l m:lL}(h:di s1=di A)(B:l.map (·.1)=m.map (·.1)):di (lh s1 l)=di (lh A m):=by
 cases s1 with
 | nil=>cases A with
  | nil=>rfl
  | cons b A=>cases h
 | cons a s1=>cases A with
  | nil=>cases h
  | cons b A=>
   unfold di at h⊢;simp only[List.map_cons,List.cons.injEq]at h;simp only[lh,List.map_cons,h.2];rw[LG a b l m B h.1]
theorem KF{s1 A:aR}(h:di s1=di A):di s1.tail=di A.tail:=by
 unfold di at h⊢;rw[List.map_tail,List.map_tail,h]
theorem xh{s1 A:aR}{l m:lL}(h:di s1=di A)(B:l.map (·.1)=m.map (·.1)):di (l::s1)=di (m::A):=by
 unfold di at h⊢;rw[List.map_cons,List.map_cons,h,B]
theorem Lt{s1 A:aR}(h:di s1=di A):(s1.headD []).map (·.1)=(A.headD []).map (·.1):=by
 cases s1 with
 | nil=>cases A with
  | nil=>rfl
  | cons b A=>cases h
 | cons a s1=>cases A with
  | nil=>cases h
  | cons b A=>
   unfold di at h;simp only[List.map_cons,List.cons.injEq]at h;exact h.1
structure xE (G1 G2:bf):Prop where
 gl:∀x,(aV G1.globals x).isSome=(aV G2.globals x).isSome
 fl:∀x,(aV G1.fields x).isSome=(aV G2.fields x).isSome
 kd:∀x (K:Int),((aV G1.globals x).filter fun j=>decide (jN G1 j=K)).isSome=((aV G2.globals x).filter fun j=>decide (jN G2 j=K)).isSome
theorem xE.refl(G:bf):xE G G:=⟨fun _=>rfl,fun _=>rfl,fun _ _=>rfl⟩
structure Gr (m:Nat) (r1 q1 r2 q2:RS) (p d:Nat):Prop where
 p1:q1.aU.length=r1.aU.length+p
 p2:q2.aU.length=r2.aU.length+p
 d1:q1.ds.length=r1.ds.length+d
 d2:q2.ds.length=r2.ds.length+d
 n1:q1.next=r1.next+m
 n2:q2.next=r2.next+m
def vW(m:Nat)(r1 q1 r2 q2:RS):Prop:=∃p d,Gr m r1 q1 r2 q2 p d
theorem vW.trans{m A n:Nat}{D B F E C G:RS}(h:vW m D B E C)(k:vW A B F C G)(J:n=m+A):vW n D F E G:=by
 obtain⟨p,d,h⟩:=h;obtain⟨I,H,k⟩:=k;refine⟨p+I,d+H,?_,?_,?_,?_,?_,?_⟩
 ·rw[k.p1,h.p1];omega
 ·rw[k.p2,h.p2];omega
 ·rw[k.d1,h.d1];omega
 ·rw[k.d2,h.d2];omega
 ·rw[k.n1,h.n1];omega
 rw[k.n2,h.n2];omega
theorem vW.refl(A B:RS):vW 0 A A B B:=⟨0,0,rfl,rfl,rfl,rfl,rfl,rfl⟩
theorem Uk(A B:RS)(c:Int)(C D:Nat)(t:ae):vW 0 A (pE A c C t) B (pE B c D t):=⟨1,0,by simp[pE],by simp[pE],rfl,rfl,rfl,rfl⟩
theorem abo(A B:RS)(c:Int)(C D:Nat)(t:ae):vW 0 A (kK A c C t) B (kK B c D t):=⟨0,1,rfl,rfl,by simp[kK],by simp[kK],rfl,rfl⟩
theorem D6(A B:RS)(C D:Nat)(t:ae)(a b:Option Int)(h:a.isSome=b.isSome):vW 0 A (iw A C t a) B (iw B D t b):=by
 cases a with
 | none=>cases b with
  | none=>exact Uk _ _ _ _ _ _
  | some y=>cases h
 | some x=>cases b with
  | none=>cases h
  | some y=>exact⟨0,0,rfl,rfl,rfl,rfl,rfl,rfl⟩
theorem Bz{A B:bf}(I:xE A B)(D E:RS)(c:Int)(G H:Nat)(t:ae){s1 F:aR}(C:di s1=di F):
 vW 0 D (aJ A D c G t s1).1 E (aJ B E c H t F).1/\di (aJ A D c G t s1).2=di (aJ B E c H t F).2:=by
 unfold aJ;rw[Jk C,I.gl];split
 ·exact⟨Uk _ _ _ _ _ _,C⟩
 exact⟨abo _ _ _ _ _ _,Hl C rfl⟩
mutual
theorem N9{I J:bf}(D:xE I J):∀(t:ae) (i:Bool) (s1 C:aR) (A B:RS),Ed t=true->di s1=di C ->
 vW (aB t) A (aK I i t s1 A).1 B (aK J i t C B).1/\di (aK I i t s1 A).2=di (aK J i t C B).2
 | .node k x a e kids,i,s1,C,A,B,hin,hs=>by
  rw[Ed]at hin;simp only[acb,Bool.or_eq_true,decide_eq_true_eq]at hin;obtain⟨⟨⟨⟨f,n,j,g⟩,T⟩,U⟩,E⟩:=hin;have F:∀z y,vW 1 A { A with next:=A.next+1,aP:=z } B { B with next:=B.next+1,aP:=y }:=fun z y=>⟨0,0,rfl,rfl,rfl,rfl,rfl,rfl⟩
  rw[aK,aK,aB];simp only[if_neg n,if_neg j,if_neg g];by_cases Y:k=7\/k=8
  ·simp only[if_pos Y]
   obtain⟨K,L⟩:=Bz D { A with next:=A.next+1,aP:=if i then dZ A.aP (A.next:Int) (aF (aH s1)) else A.aP } { B with next:=B.next+1,aP:=if i then dZ B.aP (B.next:Int) (aF (aH C)) else B.aP } 3 A.next B.next (.node k x a e kids) hs;obtain⟨G,H⟩:=lV D kids i 0 kids.length _ _ _ _ E L;refine⟨((F _ _).trans (K.trans G rfl) ?_),H⟩;simp
  simp only[if_neg Y];by_cases M:k=11
  ·simp only[if_pos M]
   obtain⟨G,H⟩:=lV D kids i 0 kids.length ([]::s1) ([]::C) { A with next:=A.next+1,aP:=if i then dZ A.aP (A.next:Int) (aF (aH s1)) else A.aP } { B with next:=B.next+1,aP:=if i then dZ B.aP (B.next:Int) (aF (aH C)) else B.aP } E (xh hs rfl);refine⟨(F _ _).trans G ?_,KF H⟩;simp
  simp only[if_neg M];by_cases X:k=12
  ·simp only[if_pos X]
   have V:kids.length=2:=T.resolve_left (by simp[X]);obtain⟨K,L⟩:=Bz D { A with next:=A.next+1,aP:=if i then dZ A.aP (A.next:Int) (aF (aH s1)) else A.aP } { B with next:=B.next+1,aP:=if i then dZ B.aP (B.next:Int) (aF (aH C)) else B.aP } 4 A.next B.next (.node k x a e kids) (xh (l:=[]) (m:=[]) hs rfl);obtain⟨G,H⟩:=lV D kids i 0 2 s1 C _ _ E hs;refine⟨((F _ _).trans (K.trans G rfl) ?_),Hl H (Lt L)⟩;rw[<- V];simp
  simp only[if_neg X];by_cases W:k=16
  ·simp only[if_pos W]
   have V:kids.length=3:=U.resolve_left (by simp[W]);obtain⟨K,L⟩:=Bz D { A with next:=A.next+1,aP:=if i then dZ A.aP (A.next:Int) (aF (aH s1)) else A.aP } { B with next:=B.next+1,aP:=if i then dZ B.aP (B.next:Int) (aF (aH C)) else B.aP } 5 A.next B.next (.node k x a e kids) (xh (l:=[]) (m:=[]) hs rfl);obtain⟨G,H⟩:=lV D kids i 0 2 s1 C _ _ E hs;obtain⟨v,u⟩:=lV D kids i 2 1 _ _ _ _ E (xh H (Lt L));refine⟨((F _ _).trans (K.trans (G.trans v rfl) rfl) ?_),KF u⟩
   match kids,V with
   | [a,b,c],_=>simp[aC];omega
  simp only[if_neg W]
  have r:∀R S,vW 1 A R B S->vW (1+aC kids) A (aj I i kids 0 kids.length s1 R).1 B (aj J i kids 0 kids.length C S).1/\di (aj I i kids 0 kids.length s1 R).2=di (aj J i kids 0 kids.length C S).2:=fun R S q=>by
   obtain⟨G,H⟩:=lV D kids i 0 kids.length s1 C R S E hs;exact⟨q.trans G (by simp),H⟩
  apply r
  by_cases O:k=20
  ·simp only[if_pos O];exact(F _ _).trans (D6 _ _ _ _ _ _ _ (Jk hs x)) rfl
  simp only[if_neg O];by_cases P:k=22
  ·simp only[if_pos P];exact(F _ _).trans (D6 _ _ _ _ _ _ _ (D.fl x)) rfl
  simp only[if_neg P];by_cases Q:k=27
  ·simp only[if_pos Q];exact(F _ _).trans (D6 _ _ _ _ _ _ _ (D.gl x)) rfl
  simp only[if_neg Q];by_cases N:k=19
  ·simp only[if_pos N];exact(F _ _).trans (D6 _ _ _ _ _ _ _ (D.kd x 5)) rfl
  simp only[if_neg N];by_cases Z:k=9/\ek x=false
  ·simp only[if_pos Z];exact(F _ _).trans (D6 _ _ _ _ _ _ _ (D.kd x 3)) rfl
  simp only[if_neg Z];exact F _ _
theorem lV{E F:bf}(G:xE E F):∀(ts:List ae) (i:Bool) (A n:Nat) (s1 D:aR) (B C:RS),lH ts=true->di s1=di D ->
 vW (aC ((ts.drop A).take n)) B (aj E i ts A n s1 B).1 C (aj F i ts A n D C).1/\di (aj E i ts A n s1 B).2=di (aj F i ts A n D C).2
 | [],i,f,n,s1,D,B,C,_,hs=>by
  rw[aj,aj]
  simpa [aC] using⟨vW.refl B C,hs⟩
 | t::ts,i,f+1,n,s1,D,B,C,hin,hs=>by
  rw[lH,acb]at hin;rw[aj,aj,List.drop_succ_cons];exact lV G ts i f n s1 D B C hin.2 hs
 | t::ts,i,0,0,s1,D,B,C,hin,hs=>by
  rw[aj,aj]
  simpa [aC] using⟨vW.refl B C,hs⟩
 | t::ts,i,0,n+1,s1,D,B,C,hin,hs=>by
  rw[lH,acb]at hin;rw[aj,aj];obtain⟨H,I⟩:=N9 G t i s1 D B C hin.1 hs;obtain⟨J,K⟩:=lV G ts i 0 n _ _ _ _ hin.2 I;refine⟨H.trans J ?_,K⟩;simp[aC]
end
def fD:List ae->Nat->List (ae×Nat)
 | [],_=>[]
 | k::ks,n=>(k,n)::fD ks (n+aB k)
def wK:List ae->Nat->List (ae×Nat)
 | [],_=>[]
 | k::ks,n=>(fD k.kids (n+1)).filter (fun y=>decide (y.1.kind=4))++wK ks (n+aB k)
def o6(L:List (ae×Nat)):List (ByteArray×Nat):=L.map fun y=>(y.1.text,y.2)
def xe(L:List (ByteArray×Nat))(l:lL):lL:=L.foldl (fun l y=>kY l y.1 (y.2:Int)) l
theorem Jl:∀(A:List ae) (n:Nat) (l:lL),jG A n l=xe (o6 ((fD A n).filter fun y=>decide (y.1.kind=4))) l
 | [],_,_=>rfl
 | f::A,n,l=>by
  rw[jG,Jl A,fD,List.filter_cons];by_cases h:f.kind=4
  ·rw[if_pos h,if_pos (decide_eq_true h)];rfl
  rw[if_neg h,if_neg (by simp[h])]
theorem OW(a b:List (ByteArray×Nat))(l:lL):xe (a++b) l=xe b (xe a l):=List.foldl_append
theorem yO:∀(ks:List ae) (n:Nat) (g:bf),kU ks n g=⟨xe (o6 (fD ks n)) g.globals,xe (o6 (wK ks n)) g.fields,(fD ks n).foldl (fun l y=>dZ l (y.2:Int) y.1.kind) g.kinds⟩
 | [],_,_=>rfl
 | k::ks,n,g=>by
  rw[kU,yO ks,fD,wK];simp only[o6,List.map_append,OW,List.map_cons,Jl];rfl
theorem pU{K V:Type}[DecidableEq K]:∀(l:List (K×V)) (k:K) (v:V) (x:K),bK (dZ l k v) x=if x=k then some v else bK l x
 | [],k,v,x=>rfl
 | y::l,k,v,x=>by
  rw[dZ];by_cases h:k=y.1
  ·rw[if_pos h,bK,bK]
   by_cases A:x=k
   ·rw[if_pos A,if_pos A]
   rw[if_neg A,if_neg A,if_neg (by rw[<- h];exact A)]
  rw[if_neg h,bK,pU l,bK];by_cases A:x=y.1
  ·rw[if_pos A,if_pos A,if_neg (by rw[A];exact fun e=>h e.symm)]
  rw[if_neg A,if_neg A]
theorem Vq(l:lL)(n:ByteArray)(k:Int)(x:ByteArray):aV (kY l n k) x=(aV l x).or (if x=n then some k else none):=by
 unfold kY;by_cases h:(aV l n).isSome
 ·rw[if_pos h]
  by_cases A:x=n
  ·subst A
   obtain⟨v,B⟩:=Option.isSome_iff_exists.1 h;rw[B];rfl
  rw[if_neg A];simp
 rw[if_neg h];unfold aV;rw[pU];by_cases A:x=n
 ·subst A
  rw[if_pos rfl,if_pos rfl];have:bK l x=none:=by simpa using h
  rw[this];rfl
 rw[if_neg A,if_neg A];simp
theorem EA:∀(L:List (ByteArray×Nat)) (l:lL) (x:ByteArray),aV (xe L l) x=(aV l x).or ((L.find? fun y=>decide (x=y.1)).map fun y=>(y.2:Int))
 | [],l,x=>by simp[xe]
 | y::L,l,x=>by
  show aV (xe L (kY l y.1 y.2)) x=_;rw[EA L,Vq,List.find?_cons];by_cases A:x=y.1
  ·rw[if_pos A,decide_eq_true A]
   cases aV l x<;>rfl
  rw[if_neg A,decide_eq_false A];simp
theorem jk(t:ae):1<=aB t:=by cases t;simp[aB]
theorem eY(t:ae):aB t=1+aC t.kids:=by cases t;rfl
theorem IW:∀(ks:List ae) (n:Nat),∀y∈fD ks n,n<=y.2/\y.2<n+aC ks
 | [],_,y,h=>by cases h
 | k::ks,n,y,h=>by
  rw[fD]at h;have:=jk k;rw[aC];rcases List.mem_cons.1 h with rfl|h
  ·simp;omega
  have:=IW ks _ y h;omega
theorem numK_pw:∀(ks:List ae) (n:Nat),(fD ks n).Pairwise fun a b=>a.2<b.2
 | [],_=>List.Pairwise.nil
 | k::ks,n=>by
  rw[fD];refine List.Pairwise.cons (fun y h=>?_) (numK_pw ks _);have:=IW ks _ y h;have:=jk k;simp;omega
theorem Qv:∀(ks:List ae) (n:Nat) (l:List (Int×Int)) (y:ae×Nat),y∈fD ks n->bK ((fD ks n).foldl (fun l y=>dZ l (y.2:Int) y.1.kind) l) (y.2:Int)=some y.1.kind
 | [],_,_,_,h=>by cases h
 | k::ks,n,l,y,h=>by
  have A:∀(ks:List ae) (m:Nat) (l:List (Int×Int)) (x:Nat),x<m->bK ((fD ks m).foldl (fun l y=>dZ l (y.2:Int) y.1.kind) l) (x:Int)=bK l (x:Int):=by
   intro ks
   induction ks with
   | nil=>intro m l x _;rfl
   | cons k ks ih=>
    intro m l x B;rw[fD,List.foldl_cons,ih _ _ _ (by omega),pU,if_neg (by simp;omega)]
  rw[fD]at h⊢;rw[List.foldl_cons];rcases List.mem_cons.1 h with rfl|h
  ·rw[A _ _ _ _ (by have:=jk k;simp;omega),pU,if_pos rfl]
  exact Qv ks _ _ y h
theorem Bi:∀(ks:List ae) (n:Nat),(fD ks n).map (·.1)=ks
 | [],_=>rfl
 | k::ks,n=>by rw[fD,List.map_cons,Bi]
def rG(ks:List ae):bf:=kU ks 1 ⟨[],[],[]⟩
theorem Ul(ks:List ae)(x:ByteArray):aV (rG ks).globals x=((o6 (fD ks 1)).find? fun y=>decide (x=y.1)).map fun y=>(y.2:Int):=by
 unfold rG;rw[yO,EA];rfl
theorem Ir(ks:List ae)(x:ByteArray):aV (rG ks).fields x=((o6 (wK ks 1)).find? fun y=>decide (x=y.1)).map fun y=>(y.2:Int):=by
 unfold rG;rw[yO,EA];rfl
theorem YT(ks:List ae)(y:ae×Nat)(h:y∈fD ks 1):jN (rG ks) (y.2:Int)=y.1.kind:=by
 unfold jN rG;rw[yO];simp only[Qv ks 1 _ y h,Option.getD_some]
end Go.Proofs.YtoepemlnlpamlaaGreat
