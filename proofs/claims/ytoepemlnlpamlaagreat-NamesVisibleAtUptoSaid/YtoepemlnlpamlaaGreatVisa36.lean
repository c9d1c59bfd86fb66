/- The law NamesVisibleAt holds where what it reads is of bulk at most 1048576: it returns true, and its arguments read as before. Part 36: Rw2 Rw3 Rw4. -/
import Derived.Test.YtoepemlnlpamlaaGreatVisa27
import Derived.Test.YtoepemlnlpamlaaGreatVisa35
set_option maxRecDepth 100000
set_option maxHeartbeats 4000000
namespace Go.Proofs.YtoepemlnlpamlaaGreat
open Go.RowKit
theorem dP.yV{E:RE}{G:List Dc}{mk:Int}{q:RW}{V:RQ}{w:World}(h:dP E G mk q V w)(i:Nat)(F:i<q.uses.length):
 ∃b A,E.uA=some ⟨b,A,none⟩/\b<w.heap.size/\(∃u,w.cell? ⟨b,A+i,none⟩=some (.int .i64 u))/\w.frozen? ⟨b,A+i,none⟩=false /\
  ∀y:Int,dP E G mk { q with uses:=q.uses.set i y } V (w.setCell ⟨b,A+i,none⟩ (.int .i64 y))/\KW E w (w.setCell ⟨b,A+i,none⟩ (.int .i64 y)):=by
 obtain⟨b,A,H,K,-,-,J,D,C⟩:=h.us.form (by omega);have B:E.uA=some ⟨b,A,none⟩:=by injection K
 refine⟨b,A,B,D,⟨_,C i (.int .i64 q.uses[i]) (by simp[iB,F])⟩,?_,fun y=>⟨h.JU B i F y,kw_use B w i _⟩⟩;obtain⟨cur,I⟩:=h.us.typed (g:=b) (by rw[B];rfl);simp[World.frozen?,I]
theorem Cu(E:RE)(G:List Dc)(mk:Int)(q:RW)(V:RQ)(w:World)(h:dP E G mk q V w)(hN:q.list.length<=1000000)(R:E.base<=w.heap.size)(C:Int)(t:ae)(A:Option Addr)(c:Nat):
 Calls Tryz.prog 158 #[.pointer (some ⟨E.rp,0,none⟩),aZ t A c,.int .i64 C] w fun e w'=>e= .returned (.tuple #[])/\∃u,dP E G mk (tF q C t) u w'/\KW E w w':=by
 obtain⟨i0,l,b,hz1,hz2⟩:=info_parts Ee;have v:Hid (tF q C t= { q with list:=q.list++[⟨C,t.at_,t.end_,t.text⟩] }):=kH rfl;unfold aZ;obtain⟨q',hq⟩:∃z,tF q C t=z:=⟨_,rfl⟩
 rw[hq]at v⊢;obtain⟨k,Y⟩:∃z,t.kind=z:=⟨_,rfl⟩
 obtain⟨x,S⟩:∃z,t.text=z:=⟨_,rfl⟩
 obtain⟨a,Q⟩:∃z,t.at_=z:=⟨_,rfl⟩
 obtain⟨z,K⟩:∃z,t.end_=z:=⟨_,rfl⟩
 obtain⟨m,Z⟩:∃z,t.kids.length=z:=⟨_,rfl⟩
 rw[Y,S,Q,K,Z];rw[S,Q,K]at v;obtain⟨I,o7⟩:∃z,q.list.length=z:=⟨_,rfl⟩
 rw[o7]at hN;have H:=kH h;have U:=kH o7;clear hq Y S Q K Z h o7;go_in
 go_wp2_with fail
 generalize P:w.alloc (.cells #[.int .i64 k,.string x,.int .i64 a,.int .i64 z,.slice A m c] 24)=W1
 have M:Below w.heap.size w W1:=by rw[<- P];exact ag _ _
 have F:aj W1 w.heap.size 24 #[.int .i64 k,.string x,.int .i64 a,.int .i64 z,.slice A m c]:=by rw[<- P];exact aj.new w _ _
 have T:=H.out.below M;have c2:W1.cell? ⟨E.rp,2,none⟩=some (.slice V.lA I V.lc):=by have:=T.blk.cell 2;rw[U.out]at this;exact this
 have hlr:=T.blk.lt;have g:=F.cell 1;have f:=F.cell 2;have d:=F.cell 3;have hlt:=F.lt;have J:=T.ls;rw[U.out]at J;have vP:=kH J;have H1:=kH T;have W:=kH M;have y:(Value.slice V.lA I V.lc).ownBlock≠some E.rp:=J.cB T.blk (by decide);have O:(Value.slice V.lA I V.lc).ownBlock≠some w.heap.size:=J.cB F (by decide);have fH:=kH y;have vJ:=kH O;have hbs:E.base<=W1.heap.size:=aac R M.size;clear P J T F M y O;refine eQ (fun w'=>w'.cell? ⟨E.rp,2,none⟩=some (.slice V.lA I V.lc)/\w'.cell? ⟨w.heap.size,1,none⟩=some (.string x)/\w'.cell? ⟨w.heap.size,2,none⟩=some (.int .i64 a)/\w'.cell? ⟨w.heap.size,3,none⟩=some (.int .i64 z)) [17] [true,true,true,true,true,true,true,true,true,true,true,true,true,false,false,false,false,false] (by kernel_rfl) (by kernel_rfl) rfl (by kernel_rfl) ?_;have r:W1.drew.cell? ⟨E.rp,2,none⟩=some (.slice V.lA I V.lc)/\W1.drew.cell? ⟨w.heap.size,1,none⟩=some (.string x)/\W1.drew.cell? ⟨w.heap.size,2,none⟩=some (.int .i64 a)/\W1.drew.cell? ⟨w.heap.size,3,none⟩=some (.int .i64 z):=⟨c2,g,f,d⟩
 iterate 13(refine ic rfl r (by intro w' n;obtain⟨hs1,hs2,hs3,hs4⟩:=n;go_simp;rfl) ?_;simp only[Act.put,sA,sZ,sC])
 refine ib (w':=W1.drew.alloc (.cells #[.int .i64 C,.int .i64 a,.int .i64 z,.string x,.slice none 0 0] 78)) rfl (by go_simp;rfl) ?_ ?_
 ·exact fun _=>⟨by go_simp,by go_simp,by go_simp,by go_simp⟩
 simp only[Act.put,sA,sZ,sC];refine sP rfl (iG _ (.tmp 10) (.tmp 19) _ rfl E.base 78 i0 _ 5 64 Tryz.underlying31 l b hz1 hz2 rfl (.slice V.lA I V.lc) I (q.list.flatMap bO) rfl (vP.out.drew.alloc _) ⟨W1.heap.size,0,none⟩ 1 1 (bO ⟨C,a,z,x⟩) rfl rfl (ji _ _ _ _ _ _ _ (by go_simp) (by go_simp) (by go_simp) (by go_simp) (by go_simp)) (by simp[bO,Value.oneCell']) (by simp only[maxLen];omega) (by omega) (by simp;omega) ?_);intro v3 N D B vG;obtain⟨A3,c3,j,-,-⟩:=D.shape;subst j;have hz3:=B.size;simp at hz3
 have q1:N.cell? ⟨E.rp,2,none⟩=some (.slice V.lA I V.lc):=by
  rw[B.cell_far _ (by simp;omega) (fun L=>fH.out L.symm)];go_simp
 have q2:N.cell? ⟨w.heap.size,1,none⟩=some (.string x):=by
  rw[B.cell_far _ (by simp;omega) (fun L=>vJ.out L.symm)];go_simp
 have q3:N.cell? ⟨w.heap.size,2,none⟩=some (.int .i64 a):=by
  rw[B.cell_far _ (by simp;omega) (fun L=>vJ.out L.symm)];go_simp
 have q4:N.cell? ⟨w.heap.size,3,none⟩=some (.int .i64 z):=by
  rw[B.cell_far _ (by simp;omega) (fun L=>vJ.out L.symm)];go_simp
 have X:=aj.grown (aj.alloc (aj.drew H1.out.blk) (.cells #[.int .i64 C,.int .i64 a,.int .i64 z,.string x,.slice none 0 0] 78)) B (fun L=>fH.out L.symm);have q5:=X.frozen 2
 have HR:Hid (∃u,dP E G mk q' u (N.setCell ⟨E.rp,2,none⟩ (.slice A3 (I+1) c3))/\KW E w (N.setCell ⟨E.rp,2,none⟩ (.slice A3 (I+1) c3))):=kH (by
  have zy:Below W1.heap.size W1 (W1.drew.alloc (.cells #[.int .i64 C,.int .i64 a,.int .i64 z,.string x,.slice none 0 0] 78)):=((Below.refl _ _).drew).alloc (aab _) _;have h2:=H1.out.below zy;have hp:=h2.note_ ⟨C,a,z,x⟩ (A:=A3) (c:=c3) (by rw[U.out,List.flatMap_append];simpa using D) (by rw[U.out];exact B);have hk:=U8 (E:=E) (w':=N) h2.ls (.inr rfl) (by rw[U.out];exact B) 2 (.slice A3 (I+1) c3);rw[U.out]at hp;rw[v.out]
  exact⟨_,hp,(KW.of_below (W.out.trans (zy.mono W.out.size))).trans hk⟩)
 clear X D B vG;refine⟨fun _=>⟨q1,q2,q3,q4⟩,?_⟩;iterate 2(simp only[Act.put,sA,sZ,sC];refine ib (w':=N) rfl (by go_simp;rfl) (fun _=>⟨q1,q2,q3,q4⟩) ?_)
 simp only[Act.put,sA,sZ,sC];refine iU (w':=N.setCell ⟨E.rp,2,none⟩ (.slice A3 (I+1) c3)) rfl (by go_simp) (by simp) ?_;refine jm ?_;simp only[Act.put];go_wp2_with fail
 go_end0
 exact⟨rfl,HR.out⟩
theorem Gl(E:RE)(G:List Dc)(mk:Int)(q:RW)(V:RQ)(w:World)(h:dP E G mk q V w)(hN:q.ds.length<=1000000)(hU:q.num<q.uses.length)(v:E.base<=w.heap.size)(kind owner:Int)(t:ae)(A:Option Addr)(c:Nat):
 Calls Tryz.prog 209 #[.pointer (some ⟨E.rp,0,none⟩),aZ t A c,.int .i64 kind,.int .i64 owner] w fun e w'=>e= .returned (.int .i64 (q.ds.length:Int))/\∃V',dP E G mk (tQ q kind t owner) V' w'/\KW E w w':=by
 obtain⟨i0,hi0,hz0,hz1,hz2⟩:=info_parts Ha;obtain⟨C,N⟩:∃z,q.num=z:=⟨_,rfl⟩
 have HP:Hid (tQ q kind t owner= { ({ q with ds:=q.ds++[(⟨kind,t.text,C,owner⟩:Dc)] }:RW) with uses:=q.uses.set C (q.ds.length:Int) }):=kH (by subst N;rfl);unfold aZ;obtain⟨q',hq⟩:∃z,tQ q kind t owner=z:=⟨_,rfl⟩
 rw[hq]at HP⊢;obtain⟨k,hk0⟩:∃z,t.kind=z:=⟨_,rfl⟩
 obtain⟨x,n⟩:∃z,t.text=z:=⟨_,rfl⟩
 obtain⟨a,b⟩:∃z,t.at_=z:=⟨_,rfl⟩
 obtain⟨z,S⟩:∃z,t.end_=z:=⟨_,rfl⟩
 obtain⟨m,u⟩:∃z,t.kids.length=z:=⟨_,rfl⟩
 rw[hk0,n,b,S,u];rw[n]at HP;obtain⟨D,o7⟩:∃z,q.ds.length=z:=⟨_,rfl⟩
 obtain⟨nu,r⟩:∃z,q.uses.length=z:=⟨_,rfl⟩
 rw[o7]at hN⊢;rw[r,N]at hU;have H:=kH h;have T:=kH o7;have Cf:=kH r;have rC:=kH N;clear hq hk0 n b S u h o7 r N;go_in
 go_wp2_with fail
 generalize Z:w.alloc (.cells #[.int .i64 k,.string x,.int .i64 a,.int .i64 z,.slice A m c] 24)=W1
 have M:Below w.heap.size w W1:=by rw[<- Z];exact ag _ _
 have L:aj W1 w.heap.size 24 #[.int .i64 k,.string x,.int .i64 a,.int .i64 z,.slice A m c]:=by rw[<- Z];exact aj.new w _ _
 have W:=H.out.below M;have c0:W1.cell? ⟨E.rp,0,none⟩=some (.slice V.dA D V.dc):=by have:=W.blk.cell 0;rw[T.out]at this;exact this
 have c4:W1.cell? ⟨E.rp,4,none⟩=some (.int .i64 (C:Int)):=by have:=W.blk.cell 4;rw[rC.out]at this;exact this
 have hlr:=W.blk.lt;have hx1:=L.cell 1;have hlt:=L.lt;have I:=W.ds;rw[T.out]at I;have vP:=kH I;have H1:=kH W;have j:=kH M;have hne:(Value.slice V.dA D V.dc).ownBlock≠some E.rp:=I.cB W.blk (by decide);have Q:(Value.slice V.dA D V.dc).ownBlock≠some w.heap.size:=I.cB L (by decide);have fH:=kH hne;have vJ:=kH Q;have hbs:E.base<=W1.heap.size:=aac v M.size;clear Z I W L M hne Q;refine eQ (fun w'=>w'.cell? ⟨E.rp,0,none⟩=some (.slice V.dA D V.dc)/\w'.cell? ⟨w.heap.size,1,none⟩=some (.string x)/\w'.cell? ⟨E.rp,4,none⟩=some (.int .i64 (C:Int))) [20] [true,true,true,true,true,true,true,true,true,true,true,true,true,true,true,false,false,false,false,false,false] (by kernel_rfl) (by kernel_rfl) rfl (by kernel_rfl) ?_;have hS0:W1.drew.cell? ⟨E.rp,0,none⟩=some (.slice V.dA D V.dc)/\W1.drew.cell? ⟨w.heap.size,1,none⟩=some (.string x)/\W1.drew.cell? ⟨E.rp,4,none⟩=some (.int .i64 (C:Int)):=⟨c0,hx1,c4⟩
 iterate 15(refine ic rfl hS0 (by intro w' Y;obtain⟨hs1,hs2,hs3⟩:=Y;go_simp;rfl) ?_;simp only[Act.put,sA,sZ,sC])
 refine ib (w':=W1.drew.alloc (.cells #[.int .i64 kind,.string x,.int .i64 (C:Int),.int .i64 owner] 49)) rfl (by go_simp;rfl) ?_ ?_
 ·exact fun _=>⟨by go_simp,by go_simp,by go_simp⟩
 simp only[Act.put,sA,sZ,sC];refine sP rfl (iG _ (.tmp 15) (.tmp 25) _ rfl E.base 49 i0 _ 4 40 Tryz.underlying27 hi0 hz0 hz1 hz2 rfl (.slice V.dA D V.dc) D (q.ds.flatMap dL) rfl (vP.out.drew.alloc _) ⟨W1.heap.size,0,none⟩ 1 1 (dL ⟨kind,x,(C:Int),owner⟩) rfl rfl (sG _ _ _ _ _ _ (by go_simp) (by go_simp) (by go_simp) (by go_simp)) (by simp[dL,Value.oneCell']) (by simp only[maxLen];omega) (by omega) (by simp;omega) ?_);intro v3 l F B vG;obtain⟨A3,c3,hv3,-,-⟩:=F.shape;subst hv3;have hz3:=B.size;simp at hz3
 have q1:l.cell? ⟨E.rp,0,none⟩=some (.slice V.dA D V.dc):=by
  rw[B.cell_far _ (by simp;omega) (fun J=>fH.out J.symm)];go_simp
 have q2:l.cell? ⟨w.heap.size,1,none⟩=some (.string x):=by
  rw[B.cell_far _ (by simp;omega) (fun J=>vJ.out J.symm)];go_simp
 have q3:l.cell? ⟨E.rp,4,none⟩=some (.int .i64 (C:Int)):=by
  rw[B.cell_far _ (by simp;omega) (fun J=>fH.out J.symm)];go_simp
 have d:=aj.grown (aj.alloc (aj.drew H1.out.blk) (.cells #[.int .i64 kind,.string x,.int .i64 (C:Int),.int .i64 owner] 49)) B (fun J=>fH.out J.symm);have q5:=d.frozen 0;obtain⟨O,kS⟩:∃O,l.setCell ⟨E.rp,0,none⟩ (.slice A3 (D+1) c3)=O:=⟨_,rfl⟩
 have U:Hid (dP E G mk { q with ds:=q.ds++[⟨kind,x,(C:Int),owner⟩] } { V with dA:=A3,dc:=c3 } O/\KW E w O):=kH (by
  have zy:Below W1.heap.size W1 (W1.drew.alloc (.cells #[.int .i64 kind,.string x,.int .i64 (C:Int),.int .i64 owner] 49)):=((Below.refl _ _).drew).alloc (aab _) _;have h2:=H1.out.below zy;have hp:=h2.decl_ ⟨kind,x,(C:Int),owner⟩ (A:=A3) (c:=c3) (by rw[T.out,List.flatMap_append];simpa using F) (by rw[T.out];exact B);have hk:=U8 (E:=E) (w':=l) h2.ds (.inl rfl) (by rw[T.out];exact B) 0 (.slice A3 (D+1) c3);rw[T.out,kS]at hp;rw[kS]at hk
  exact⟨hp,(KW.of_below (j.out.trans (zy.mono j.out.size))).trans hk⟩)
 clear d F B vG;refine⟨fun _=>⟨q1,q2,q3⟩,?_⟩;iterate 3(simp only[Act.put,sA,sZ,sC];refine ib (w':=l) rfl (by go_simp;rfl) (fun _=>⟨q1,q2,q3⟩) ?_)
 simp only[Act.put,sA,sZ,sC];refine iU (w':=l.setCell ⟨E.rp,0,none⟩ (.slice A3 (D+1) c3)) rfl (by go_simp) (by simp) ?_;refine jm ?_;simp only[Act.put];rw[kS];have P:({ q with ds:=q.ds++[⟨kind,x,(C:Int),owner⟩] }:RW).ds.length=D+1:=by show(q.ds++[_]).length=_;rw[aam,T.out];rfl
 obtain⟨K,jD⟩:∃z,O.drew=z:=⟨_,rfl⟩
 have y:Below O.heap.size O K:=by rw[<- jD];exact(Below.refl _ _).drew
 have eZ:=U.out.1.below y;obtain⟨f,ou,hA,hbu,mi,hfu,R⟩:=eZ.yV C (by show C<q.uses.length;rw[Cf.out];exact hU);obtain⟨u0,mi⟩:=mi;have Dn:=U.out.1.blk;have g:=eZ.blk;rw[P]at Dn g;have e0:O.cell? ⟨E.rp,0,none⟩=some (.slice A3 (D+1) c3):=Dn.cell 0;have J:K.cell? ⟨E.rp,1,none⟩=some (.slice E.uA nu E.uc):=by have:=g.cell 1;rw[Cf.out]at this;exact this
 have e4:K.cell? ⟨E.rp,4,none⟩=some (.int .i64 (C:Int)):=by have:=g.cell 4;rw[rC.out]at this;exact this
 rw[hA]at J;have hl4:=Dn.lt;have hl5:=g.lt
 have HR:Hid (∃V',dP E G mk q' V' (K.setCell ⟨f,ou+C,none⟩ (.int .i64 (D:Int)))/\KW E w (K.setCell ⟨f,ou+C,none⟩ (.int .i64 (D:Int)))):=kH (by
  obtain⟨h5,h6⟩:=R (D:Int);rw[HP.out,T.out]
  exact⟨_,h5,(U.out.2.trans (KW.of_below y)).trans h6⟩)
 have hnw:IntKind.i64.wrap (((D+1:Nat):Int) - 1)=(D:Int):=by rw[IntWalk.i64_in _ (by omega)];omega
 have hnw2:IntKind.i64.wrap ((D:Int)+1 - 1)=(D:Int):=by rw[IntWalk.i64_in _ (by omega)];omega
 have u:¬((C:Int)<0):=by omega
 have hmu:(C:Int)<(nu:Int):=by omega
 clear R kS Dn g P eZ y;go_wp2_with fail
 refine eQ (fun w'=>w'.cell? ⟨E.rp,1,none⟩=some (.slice (some ⟨f,ou,none⟩) nu E.uc)/\w'.cell? ⟨E.rp,4,none⟩=some (.int .i64 (C:Int))) [11] [true,true,true,true,true,true,true,true,true,true,false,false] (by kernel_rfl) (by kernel_rfl) rfl (by kernel_rfl) ?_;rw[jD];have X:K.cell? ⟨E.rp,1,none⟩=some (.slice (some ⟨f,ou,none⟩) nu E.uc)/\K.cell? ⟨E.rp,4,none⟩=some (.int .i64 (C:Int)):=⟨J,e4⟩
 iterate 10(refine ic rfl X (by intro w' Y;obtain⟨hs1,hs2⟩:=Y;go_simp;rfl) ?_;simp only[Act.put,sA,sZ,sC])
 refine ib (w':=K) rfl (by go_simp;rfl) (fun _=>X) ?_;simp only[Act.put,sA,sZ,sC];refine iU (w':=K.setCell ⟨f,ou+C,none⟩ (.int .i64 (D:Int))) rfl (by go_simp) (by simp) ?_;refine jm ?_;simp only[Act.put];clear jD X;go_wp2_with fail
 go_ret
 exact⟨rfl,HR.out⟩
theorem rR{B:Nat}{w w':World}{A:Option Nat}(C:w.grownBy w' A)(D:B<=w.heap.size)(F:∀k,A=some k->B<=k):Below B w w':=((aF.refl (fun g=>B<=g) w).grown C (fun k E=>.inl (F k E))).toBelow D (fun _ C=>C)
theorem Y2{G:List Dc}{q:RW}{s:List Nat}{t:ae}{c o:Int}(h:((pF q.ds s t.text).isSome || (pI G false t.text).isSome)=true):fQ G q s t c o=(tF q 9 t,s):=by
 unfold fQ;rw[if_pos h]
theorem Y3{G:List Dc}{q:RW}{s:List Nat}{t:ae}{c o:Int}(h:((pF q.ds s t.text).isSome || (pI G false t.text).isSome)=false):fQ G q s t c o=(tQ q c t o,s++[q.ds.length]):=by
 unfold fQ;rw[h,if_neg (by simp)]
theorem zV(s:List Nat):(s.flatMap jr).length=s.length:=by
 induction s with
 | nil=>rfl
 | cons a s ih=>rw[List.flatMap_cons,aam,ih];simp[jr];omega
theorem Rw{s:List Nat}{j:Nat}{u:Value}(h:(s.flatMap jr)[j]? =some u):∃i,s[j]? =some i/\u= .int .i64 (i:Int):=by
 induction s generalizing j with
 | nil=>simp at h
 | cons a s ih=>
  rw[List.flatMap_cons]at h
  cases j with
  | zero=>
   simp[jr]at h;exact⟨a,rfl,h.symm⟩
  | succ j=>
   rw[aal (by simp[jr])]at h;obtain⟨i,A,B⟩:=ih (j:=j) (by simpa [jr] using h);exact⟨i,by simpa using A,B⟩
theorem gP.news{w:World}{H:Option Nat}{A:Option Addr}{s:List Nat}(E:gP w H A s):∀j u,(s.flatMap jr)[j]? =some u->∃a,A=some a/\w.cell? (a.add j)=some u:=fun j u F=>by
 obtain⟨i,B,rfl⟩:=Rw F;obtain⟨b,G,I,C,-,-,D⟩:=E j i B;exact⟨_,C,by simpa [Addr.add_lit] using D⟩
theorem Gs{s:List Nat}:∀u∈s.flatMap jr,u.oneCell'=true:=fun u A=>by
 obtain⟨i,-,h⟩:=List.mem_flatMap.1 A;simp[jr]at h;subst h;rfl
theorem vV(E:RE)(G:List Dc)(mk:Int)(q:RW)(V:RQ)(w:World)(h:dP E G mk q V w)(hN:q.ds.length<=1000000)(hL:q.list.length<=1000000)(hG:G.length<=1000000)(hU:q.num<q.uses.length)(R:E.base<=w.heap.size)
 (A:Option Addr) (n c:Nat) (s:List Nat) (hs:gP w (E.uA.map (·.block)) A s) (hsn:s.length=n) (hnc:n<=c) (hn:n<=1000000) (hlt:∀i∈s,i<q.ds.length) (kind owner:Int) (t:ae) (At:Option Addr) (ct:Nat):
 Calls Tryz.prog 161 #[.pointer (some ⟨E.rp,0,none⟩),.slice A n c,aZ t At ct,.int .i64 kind,.int .i64 owner] w fun e w'=> ∃O M P,e= .returned (.slice O M P)/\(fQ G q s t kind owner).2.length=M/\M<=P/\gP w' (E.uA.map (·.block)) O (fQ G q s t kind owner).2 /\
  ∃V',dP E G mk (fQ G q s t kind owner).1 V' w'/\KW E w w':=by
 obtain⟨i0,hi0,hz0,hz1,hz2⟩:=info_parts yJ;obtain⟨k,x,a,z,m,-,hx,-,-,-,hv⟩:=dR t At ct;obtain⟨cc,S⟩:∃b,((pF q.ds s t.text).isSome || (pI G false t.text).isSome)=b:=⟨_,rfl⟩
 have hlk:=fun W N=>I4 E G mk q V W (h.below N) (E.uA.map (·.block)) A n c s (hs.below N) hsn hlt x hn
 have hgl:=h.gl.rowAt (cells:=dL) (l:=G) rfl rfl (fun _ _=>rfl) rfl;have jT:=fun(W:World) (N:Below w.heap.size w W)=>Cv E.gA G.length E.gc G false x W ((hgl.below N (aab _)).mono N.size) rfl hG
 have uZ:=fun(W:World) (N:Below w.heap.size w W)=>Cu E G mk q V W (h.below N) hL (aac R N.size) 9 t At ct
 have ET:=fun(W:World) (N:Below w.heap.size w W)=>Gl E G mk q V W (h.below N) hN hU (aac R N.size) kind owner t At ct
 rw[hv]at uZ ET⊢;rw[hx]at S;have Eo:=kH hlk;have zI:=kH jT;have ze:=kH uZ;have Fp:=kH ET;have H:=kH h;have HS:=kH hs;have HCC:=kH S;have HX:=kH hx;have ng:=kH hsn;have L:Hid (cc=true->fQ G q s t kind owner=(tF q 9 t,s)):=kH fun e=>Y2 (by rw[hx,S,e])
 have K:Hid (cc=false->fQ G q s t kind owner=(tQ q kind t owner,s++[q.ds.length])):=kH fun e=>Y3 (by rw[hx,S,e])
 obtain⟨lg,xO⟩:∃z,G.length=z:=⟨_,rfl⟩
 rw[xO]at zI;have HLG:=kH xO;clear hlk hgl jT uZ ET hv S h hs hx hsn hlt xO hG hL;go_in
 go_wp2_with fail
 generalize hW1:w.alloc (.cells #[.int .i64 k,.string x,.int .i64 a,.int .i64 z,.slice At m ct] 24)=W1
 have hb1:Below w.heap.size w W1:=by rw[<- hW1];exact ag _ _
 have hT1:aj W1 w.heap.size 24 #[.int .i64 k,.string x,.int .i64 a,.int .i64 z,.slice At m ct]:=by rw[<- hW1];exact aj.new w _ _
 have I:=kH hb1;have Y:=kH hT1;clear hW1 hb1 hT1;go_upto_region 1 with fail
 go_cut [27] (fun s27 wx=>s27= .bool cc/\Below W1.heap.size W1 wx)
 case first=>
  have jy:∀W,Below W1.heap.size W1 W->W.cell? ⟨w.heap.size,1,none⟩=some (.string x)/\W.cell? ⟨E.rp,3,none⟩=some (.slice E.gA lg E.gc):=fun W N=>by
   have hr:=(H.out.below (I.out.trans (N.mono I.out.size))).blk.cell 3;rw[HLG.out]at hr;exact⟨(Y.out.below N Y.out.lt).cell 1,hr⟩
  have eY:=kH jy;have J:Below W1.heap.size W1 W1.drew:=(Below.refl _ _).drew;have Z:=eY.out _ J;clear jy
  cases hl:pF q.ds s x with
  | some j=>
   have U:yI q.ds s x=(j:Int):=by unfold yI;rw[hl]
   have u:cc=true:=by rw[<- HCC.out,hl];rfl
   subst u;have HLX:=kH U;clear hl U;refine dD (fun w'=>w'.cell? ⟨w.heap.size,1,none⟩=some (.string x)/\w'.cell? ⟨E.rp,3,none⟩=some (.slice E.gA lg E.gc)) [] [true,true,true,true,false,true,true,true,true,true,true,true,true,true,true,true] (by kernel_rfl) (by kernel_rfl) rfl (by kernel_rfl) ?_;iterate 4((first|(refine dB (by rfl) Z ?_)|(refine bV (by rfl) Z (by intro w' C;obtain⟨r,f⟩:=C;go_simp;rfl) ?_));simp only[Act.put,sA,sZ,sC])
   refine eH (by rfl) (by go_simp) ((Eo.out _ (I.out.trans (J.mono I.out.size))).mono ?_);rintro e4 w4 ⟨rfl,hb4⟩;rw[HLX.out];have cO:Below W1.heap.size W1 w4:=J.trans (hb4.mono J.size);have X:=eY.out _ cO;have hdj:decide ((0:Int)<=(j:Int))=true:=decide_eq_true (by omega);refine⟨_,rfl,fun _=>X,?_⟩;simp only[Act.put,sA,sZ,sC];refine bV (v:=.bool true) (by rfl) X (by intro w' C;go_simp) ?_;iterate 10(simp only[Act.put,sA,sZ,sC];(first|(refine dB (by rfl) X ?_)|(refine bV (by rfl) X (by intro w' C;obtain⟨r,f⟩:=C;go_simp;rfl) ?_)))
   simp only[Act.put,sA,sZ,sC];refine gJ ?_;go_wp2_with fail
   go_meet
   exact⟨rfl,cO⟩
  | none=>
   have U:yI q.ds s x= -1:=by unfold yI;rw[hl]
   have u:(pI G false x).isSome=cc:=by rw[<- HCC.out,hl];rfl
   have hfx:decide ((0:Int)<=vH G false x)=cc:=by
    rw[<- u];unfold vH
    cases pI G false x with
    | none=>rfl
    | some j=>exact decide_eq_true (by show(0:Int)<=(j:Int);omega)
   obtain⟨fx,T⟩:∃z,vH G false x=z:=⟨_,rfl⟩
   rw[T]at hfx;have HFX:=kH T;have HLX:=kH U;have hfge:(fx >=0)=(0<=fx):=rfl;clear hl U u T;refine dD (fun w'=>w'.cell? ⟨w.heap.size,1,none⟩=some (.string x)/\w'.cell? ⟨E.rp,3,none⟩=some (.slice E.gA lg E.gc)) [] [true,true,true,true,false,true,true,true,true,true,true,true,true,false,true,true] (by kernel_rfl) (by kernel_rfl) rfl (by kernel_rfl) ?_;iterate 4((first|(refine dB (by rfl) Z ?_)|(refine bV (by rfl) Z (by intro w' C;obtain⟨r,f⟩:=C;go_simp;rfl) ?_));simp only[Act.put,sA,sZ,sC])
   refine eH (by rfl) (by go_simp) ((Eo.out _ (I.out.trans (J.mono I.out.size))).mono ?_);rintro e4 w4 ⟨rfl,hb4⟩;rw[HLX.out];have cO:Below W1.heap.size W1 w4:=J.trans (hb4.mono J.size);have X:=eY.out _ cO;refine⟨_,rfl,fun _=>X,?_⟩;simp only[Act.put,sA,sZ,sC];refine bV (v:=.bool false) (by rfl) X (by intro w' C;go_simp) ?_;simp only[Act.put,sA,sZ,sC];have hlr4:=World.block_lt_of_cell? _ _ X.2;iterate 7((first|(refine dB (by rfl) X ?_)|(refine bV (by rfl) X (by intro w' C;obtain⟨r,f⟩:=C;go_simp;rfl) ?_));simp only[Act.put,sA,sZ,sC])
   refine eH (by rfl) (by go_simp) ((zI.out _ (I.out.trans (cO.mono I.out.size))).mono ?_);rintro e5 w5 ⟨rfl,hb5⟩;rw[HFX.out];have qh:Below W1.heap.size W1 w5:=cO.trans (hb5.mono cO.size);have y:=eY.out _ qh;refine⟨_,rfl,fun _=>y,?_⟩;simp only[Act.put,sA,sZ,sC];refine bV (v:=.bool cc) (by rfl) y (by intro w' C;go_simp) ?_;simp only[Act.put,sA,sZ,sC];first|(refine dB (by rfl) y ?_)|(refine bV (by rfl) y (by intro w' C;obtain⟨r,f⟩:=C;go_simp;rfl) ?_)
   simp only[Act.put,sA,sZ,sC];refine gJ ?_;go_wp2_with fail
   go_meet
   exact⟨rfl,qh⟩
 case rest=>
  obtain⟨rfl,hbq⟩:=hcut;have hbw:Below w.heap.size w wc:=I.out.trans (hbq.mono I.out.size);have mJ:=kH hbw;have SS:=Y.out.below hbq Y.out.lt;obtain⟨⟨t0,t1,t2,t3,t4⟩,-⟩:=SS.five;have lt':=SS.lt;clear hbq hbw SS
  cases cc with
  | true=>
   have T9:=kH (L.out rfl);have JH:=kH (ze.out _ mJ.out);clear L K ze Fp;go_wp2_with fail
   refine JH.out.mono ?_;rintro e6 F ⟨rfl,V6,h6,k6⟩
   have aO:Hid (∃O M P,Value.slice A n c= .slice O M P/\(fQ G q s t kind owner).2.length=M/\M<=P/\gP F (E.uA.map (·.block)) O (fQ G q s t kind owner).2/\∃V',dP E G mk (fQ G q s t kind owner).1 V' F/\KW E w F):=kH (by
    rw[T9.out]
    exact⟨A,n,c,rfl,ng.out,hnc,(HS.out.below mJ.out).kw k6 rfl ⟨_,(H.out.below mJ.out).blk⟩,V6,h6,(KW.of_below mJ.out).trans k6⟩)
   clear h6 k6 JH;go_wp2_with fail
   go_ret
   obtain⟨O,M,P,h1,h2⟩:=aO.out;exact⟨O,M,P,by rw[h1];rfl,h2⟩
  | false=>
   have T9:=kH (K.out rfl);have HDC:=kH (Fp.out _ mJ.out);clear L K ze Fp;go_wp2_with fail
   refine HDC.out.mono ?_;rintro e6 F ⟨rfl,V6,h6,k6⟩;have k06:KW E w F:=(KW.of_below mJ.out).trans k6;have hs6:gP F (E.uA.map (·.block)) A s:=(HS.out.below mJ.out).kw k6 rfl ⟨_,(H.out.below mJ.out).blk⟩;have Ch:=kH k06;have TM:=kH hs6;have H6:=kH h6;clear h6 k6 k06 hs6 HDC;obtain⟨nd,hnd⟩:∃z,q.ds.length=z:=⟨_,rfl⟩
   have lh:=kH hnd;rw[hnd];clear hnd;obtain⟨W7,rP⟩:∃z,F.alloc (.cells #[] 3)=z:=⟨_,rfl⟩
   have dF:Below F.heap.size F W7:=by rw[<- rP];exact ag _ _
   have Z6:aK W7 F.heap.size 3 1 (.slice (some ⟨F.heap.size,0,none⟩) 0 0) 0 []:=by
    rw[<- rP];exact aK.block (aab _) (aj.new F _ _) (Nat.zero_le _) rfl
   have gK:=kH dF;have wW:=kH Z6;clear dF Z6;go_wp2_with (first|rw[rP]|(at_builtin;refine LB _ rfl (.tmp 37) (.tmp 38) _ rfl F.heap.size 3 i0 _ 1 8 Tryz.underlying142 hi0 hz0 hz1 hz2 rfl (by omega) (.slice (some ⟨F.heap.size,0,none⟩) 0 0) 0 [] rfl wW.out A n c (s.flatMap jr) rfl (by rw[zV,ng.out];omega) (TM.out.below gK.out).news Gs (by simp only[maxLen];omega) (by omega) gK.out.size ?_;intro v8 w8 B D hat;rw[Nat.zero_add,List.nil_append]at B;obtain⟨A8,c8,ed,-,-⟩:=B.shape;subst ed;have dU:Below F.heap.size F w8:=gK.out.trans (rR D gK.out.size (fun k hk=>by cases hk;exact aab _));have d:=kH B;have vE:=kH dU;clear B D hat dU rP)|(at_builtin;refine di _ rfl (.tmp 39) (.tmp 41) _ rfl F.heap.size 3 i0 _ 1 8 Tryz.underlying142 hi0 hz0 hz1 hz2 rfl (.slice A8 n c8) n (s.flatMap jr) rfl (d.out.alloc _) ⟨w8.heap.size,0,none⟩ 1 1 [.int .i64 (nd:Int)] rfl rfl (wF _ _ _ (by go_simp)) (by simp[Value.oneCell']) (by simp only[maxLen];omega) (by omega) (by have:=vE.out.size;simp;omega) ?_;intro v9 w9 B D hat;obtain⟨A9,c9,gX,hnc9,-⟩:=B.shape;subst gX;have hbA:Below F.heap.size F (w8.alloc (.cells #[.int .i64 (nd:Int)] 3)):=vE.out.trans ((ag _ _).mono vE.out.size);have eP:Below F.heap.size F w9:=hbA.trans (rR D hbA.size (fun k hk=>(d.out.lt k hk).1));have Q:=kH B;have Ah:=kH eP;have HNC9:=kH hnc9;clear B D hat eP hbA hnc9))
   have aO:Hid (∃O M P,Value.slice A9 (n+1) c9= .slice O M P/\(fQ G q s t kind owner).2.length=M/\M<=P/\gP w9 (E.uA.map (·.block)) O (fQ G q s t kind owner).2/\∃V',dP E G mk (fQ G q s t kind owner).1 V' w9/\KW E w w9):=kH (by
    rw[T9.out];have hlen:(s++[q.ds.length]).length=n+1:=by rw[aam,ng.out];rfl
    refine⟨A9,n+1,c9,rfl,hlen,HNC9.out,gP.DZ (base:=F.heap.size) (c:=c9) (n:=n+1) (by rw[List.flatMap_append,lh.out];exact Q.out) hlen (fun g hg e=>?_),V6,H6.out.below Ah.out,Ch.out.trans (KW.of_below Ah.out)⟩;have h1:=(Q.out.lt g hg).1;have h2:=(H6.out.us.lt g (by rw[DY];exact e)).2
    omega)
   go_ret
   obtain⟨O,M,P,h1,h2⟩:=aO.out;exact⟨O,M,P,by rw[h1];rfl,h2⟩
theorem AJ{G:List Dc}{f:Bool}{x:ByteArray}{d:Dc}(h:nN G f x=some d):∃j:Nat,pI G f x=some j/\G[j]? =some d/\vH G f x=(j:Int)/\j<G.length:=by
 unfold nN at h
 cases A:pI G f x with
 | none=>rw[A]at h;cases h
 | some j=>
  rw[A]at h;exact⟨j,rfl,h,by unfold vH;rw[A],(aah.1 h).1⟩
theorem Yn{G:List Dc}{f:Bool}{x:ByteArray}(h:nN G f x=none):vH G f x= -1:=by
 unfold nN at h;unfold vH
 cases B:pI G f x with
 | none=>rfl
 | some j=>
  rw[B]at h
  have A:j<G.length:=by
   have:=List.findIdx?_eq_some_iff_findIdx_eq.1 B;exact this.1
  rw[show(some j).bind (fun k=>G[k]?)=G[j]? from rfl,aaf A]at h;cases h
theorem Db(E:RE)(G:List Dc)(mk:Int)(q:RW)(V:RQ)(w:World)(h:dP E G mk q V w)(hN:q.ds.length<=1000000)(hL:q.list.length<=1000000)(hG:G.length<=1000000)(hU:q.num<q.uses.length)(D:E.base<=w.heap.size)
 (kind owner:Int) (t:ae) (T:Option Addr) (U:Nat) (d:Dc) (c:nN G (decide (kind=1)) t.text=some d):
 Calls Tryz.prog 156 #[.pointer (some ⟨E.rp,0,none⟩),aZ t T U,.int .i64 kind,.int .i64 owner] w fun e w'=>e= .returned (.tuple #[])/\∃v,dP E G mk (fJ G q t kind owner) v w'/\KW E w w':=by
 obtain⟨k,x,a,z,m,-,hx,-,-,-,hv⟩:=dR t T U;rw[hx]at c;obtain⟨j,hj,Z8,b,hjl⟩:=AJ c;have Q:=h.gl.rowAt (cells:=dL) (l:=G) rfl rfl (fun _ _=>rfl) rfl;have jT:=fun(W:World) (C:Below w.heap.size w W)=>Cv E.gA G.length E.gc G (decide (kind=1)) x W ((Q.below C (aab _)).mono C.size) rfl hG
 have uZ:=fun(W:World) (C:Below w.heap.size w W)=>Cu E G mk q V W (h.below C) hL (aac D C.size) 9 t T U
 have ET:=fun(W:World) (C:Below w.heap.size w W)=>Gl E G mk q V W (h.below C) hN hU (aac D C.size) kind owner t T U
 obtain⟨u,go,hgA,hgb,hgc⟩:=Q j d Z8;obtain⟨M,A⟩:∃z,d.node=z:=⟨_,rfl⟩
 have d2:w.cell? ⟨u,go+j*4+2,none⟩=some (.int .i64 M):=by rw[<- A];exact hgc 2 _ rfl
 obtain⟨nm,L⟩:∃z,q.num=z:=⟨_,rfl⟩
 have I:Hid (M=(nm:Int)->fJ G q t kind owner=tQ q kind t owner):=kH fun e=>by
  unfold fJ;rw[hx,c,if_pos (by rw[L];exact congrArg some (A.trans e))]
 have S:Hid (¬M=(nm:Int)->fJ G q t kind owner=tF q 9 t):=kH fun e=>by
  unfold fJ;rw[hx,c,if_neg (by rw[L];exact fun e2=>e (A.symm.trans (Option.some.inj e2)))]
 rw[hv]at uZ ET⊢;rw[b]at jT;obtain⟨kb,R⟩:∃z,decide (kind=1)=z:=⟨_,rfl⟩
 rw[R]at jT;have hkb2:(kind==1)=kb:=by rw[<- R,Bool.eq_iff_iff];simp
 obtain⟨lg,xO⟩:∃z,G.length=z:=⟨_,rfl⟩
 rw[xO]at jT hjl hG;have zI:=kH jT;have ze:=kH uZ;have Fp:=kH ET;have H:=kH h;have y:=kH xO;have rC:=kH L;have HGA:=kH hgA;have Y:Hid (w.cell? ⟨u,go+j*4+2,none⟩=some (.int .i64 M)/\u<w.heap.size):=kH ⟨d2,hgb⟩;clear Q jT uZ ET hv h hx xO c hj Z8 b hgA hgb hgc d2 A L R hL;go_in
 go_wp2_with fail
 generalize P:w.alloc (.cells #[.int .i64 k,.string x,.int .i64 a,.int .i64 z,.slice T m U] 24)=W1
 have g:Below w.heap.size w W1:=by rw[<- P];exact ag _ _
 have n:aj W1 w.heap.size 24 #[.int .i64 k,.string x,.int .i64 a,.int .i64 z,.slice T m U]:=by rw[<- P];exact aj.new w _ _
 have B:=kH g;have J:=kH n;clear P g n
 have jy:∀W,Below W1.heap.size W1 W->W.cell? ⟨w.heap.size,1,none⟩=some (.string x)/\W.cell? ⟨E.rp,3,none⟩=some (.slice E.gA lg E.gc):=fun W C=>by
  have hr:=(H.out.below (B.out.trans (C.mono B.out.size))).blk.cell 3;rw[y.out]at hr;exact⟨(J.out.below C J.out.lt).cell 1,hr⟩
 have eY:=kH jy;have F:Below W1.heap.size W1 W1.drew:=(Below.refl _ _).drew;have N:=eY.out _ F;clear jy;refine dD (fun w'=>w'.cell? ⟨w.heap.size,1,none⟩=some (.string x)/\w'.cell? ⟨E.rp,3,none⟩=some (.slice E.gA lg E.gc)) [] [true,true,true,true,true,true,true,true,false,true] (by kernel_rfl) (by kernel_rfl) rfl (by kernel_rfl) ?_;iterate 8((first|(refine dB (by rfl) N ?_)|(refine bV (by rfl) N (by intro w' O;obtain⟨hs1,hs2⟩:=O;go_simp;rfl) ?_));simp only[Act.put,sA,sZ,sC])
 refine eH (by rfl) (by go_simp) ((zI.out _ (B.out.trans (F.mono B.out.size))).mono ?_);rintro e4 w4 ⟨rfl,f⟩;have cO:Below W1.heap.size W1 w4:=F.trans (f.mono F.size);have mq:=eY.out _ cO;refine⟨_,rfl,fun _=>mq,?_⟩;simp only[Act.put,sA,sZ,sC];first|(refine dB (by rfl) mq ?_)|(refine bV (by rfl) mq (by intro w' O;obtain⟨hs1,hs2⟩:=O;go_simp;rfl) ?_)
 simp only[Act.put,sA,sZ,sC];refine gJ ?_;have K:Below w.heap.size w w4:=B.out.trans (cO.mono B.out.size);have mJ:=kH K;have SS:=J.out.below cO J.out.lt;obtain⟨⟨t0,t1,t2,t3,t4⟩,-⟩:=SS.five;have lt':=SS.lt;have X:=(H.out.below K).blk;rw[y.out,rC.out,HGA.out]at X;have r3:=X.cell 3;have r4:=X.cell 4;have lr4:=X.lt;have d2:w4.cell? ⟨u,go+j*4+2,none⟩=some (.int .i64 M):=(K.cell (p:=⟨u,_,none⟩) Y.out.2).trans Y.out.1;have hj0:¬((j:Int)<0):=by omega
 have hji:(j:Int)<(lg:Int):=by omega
 clear f cO mq N F K SS X zI;by_cases A:M=(nm:Int)
 ·subst A
  have T9:=kH (I.out rfl);have Z:=kH (fun nq=>Fp.out (w4.drewN nq) (aT mJ.out nq));clear I S ze Fp;go_wp2_with fail
  go_quiet (fail)
  go_wp2_with fail
  refine(Z.out _).mono ?_;rintro e6 w6 ⟨rfl,V6,r,k6⟩
  have aO:Hid (∃v,dP E G mk (fJ G q t kind owner) v w6/\KW E w w6):=kH (by
   rw[T9.out]
   exact⟨V6,r,(KW.of_below (aT mJ.out _)).trans k6⟩)
  clear r k6 Z;go_wp2_with fail
  go_end0
  exact⟨rfl,aO.out⟩
 ·have T9:=kH (S.out A)
  have hdb:(M !=(nm:Int))=true:=by simpa using A
  have JH:=kH (fun nq=>ze.out (w4.drewN nq) (aT mJ.out nq));clear I S A Fp ze;go_wp2_with fail
  go_quiet (fail)
  go_wp2_with fail
  refine(JH.out _).mono ?_;rintro e6 w6 ⟨rfl,V6,r,k6⟩
  have aO:Hid (∃v,dP E G mk (fJ G q t kind owner) v w6/\KW E w w6):=kH (by
   rw[T9.out]
   exact⟨V6,r,(KW.of_below (aT mJ.out _)).trans k6⟩)
  clear r k6 JH;go_wp2_with fail
  try simp only[Exit.inBlock,Exit.then]
  refine bodyPost_ret (results_none rfl _ _ _) rfl ?_;exact⟨rfl,aO.out⟩
theorem Ey(E:RE)(G:List Dc)(mk:Int)(q:RW)(V:RQ)(w:World)(h:dP E G mk q V w)(g:q.list.length<=1000000)(Z:q.num<q.uses.length)(K:E.base<=w.heap.size)
 (t:ae) (N:Option Addr) (O:Nat) (o:Option Int) (y:Int) (u:∀k,o=some k->k=y/\0<=k/\k<=1000000) (L:o=none->y= -1):
 Calls Tryz.prog 159 #[.pointer (some ⟨E.rp,0,none⟩),aZ t N O,.int .i64 y] w fun e w'=>e= .returned (.tuple #[])/\∃Q,dP E G mk (sS q t o) Q w'/\KW E w w':=by
 obtain⟨k,x,a,z,m,-,-,-,-,-,U⟩:=dR t N O;have A:Below w.heap.size w (w.alloc (.cells #[.int .i64 k,.string x,.int .i64 a,.int .i64 z,.slice N m O] 24)):=ag _ _
 cases o with
 | none=>
  obtain rfl:=L rfl;have v:=Cu E G mk q V (w.alloc (.cells #[.int .i64 k,.string x,.int .i64 a,.int .i64 z,.slice N m O] 24)) (h.below A) g (aac K A.size) 8 t N O;rw[U]at v⊢;have P:=kH A;have l:=kH v;clear v A U h u L;go_in
  go_wp2_with fail
  refine l.out.mono ?_;rintro e c ⟨rfl,V2,j,f⟩;have b:Hid (∃Q,dP E G mk (sS q t none) Q c/\KW E w c):=kH ⟨V2,j,(KW.of_below P.out).trans f⟩;clear j f l P;go_wp2_with fail
  try simp only[Exit.inBlock,Exit.then]
  refine bodyPost_ret (results_none rfl _ _ _) rfl ?_;exact⟨rfl,b.out⟩
 | some y'=>
  obtain⟨rfl,hy0,hy1⟩:=u y' rfl;rw[U];obtain⟨W,S⟩:∃W,w.alloc (.cells #[.int .i64 k,.string x,.int .i64 a,.int .i64 z,.slice N m O] 24)=W:=⟨_,rfl⟩
  rw[S]at A;obtain⟨H,r⟩:∃z,W.drew=z:=⟨_,rfl⟩
  have J:Below w.heap.size w H:=by rw[<- r];exact A.drew
  have X:=h.below J;obtain⟨D,C⟩:∃z,q.num=z:=⟨_,rfl⟩
  rw[C]at Z;obtain⟨R,T,hA,hbu,d,hfu,F⟩:=X.yV D Z;obtain⟨u0,d⟩:=d;obtain⟨n,M⟩:∃z,q.uses.length=z:=⟨_,rfl⟩
  rw[M]at Z;have B:=X.blk;rw[M,C,hA]at B;have c1:=B.cell 1;have c4:=B.cell 4;have hl4:=B.lt
  have HR:Hid (∃Q,dP E G mk (sS q t (some y')) Q (H.setCell ⟨R,T+D,none⟩ (.int .i64 (-2 - y')))/\KW E w (H.setCell ⟨R,T+D,none⟩ (.int .i64 (-2 - y')))):=kH (by
   obtain⟨h5,h6⟩:=F (-2 - y');refine⟨V,?_,(KW.of_below J).trans h6⟩;have e:sS q t (some y')= { q with uses:=q.uses.set D (-2 - y') }:=by rw[<- C];rfl
   rw[e]
   exact h5)
  have hn0:¬y'<0:=by omega
  have hw2:IntKind.i64.wrap (-2 - y')= -2 - y':=IntWalk.i64_in _ (by omega);have hm0:¬((D:Int)<0):=by omega
  have hmu:(D:Int)<(n:Int):=by omega
  clear F U h X M A J B u L C g;go_in
  go_wp2_with (rw[S])
  refine eQ (fun w'=>w'.cell? ⟨E.rp,1,none⟩=some (.slice (some ⟨R,T,none⟩) n E.uc)/\w'.cell? ⟨E.rp,4,none⟩=some (.int .i64 (D:Int))) [12] [true,true,true,true,true,true,true,true,true,true,true,false,false] (by kernel_rfl) (by kernel_rfl) rfl (by kernel_rfl) ?_;rw[r];have I:H.cell? ⟨E.rp,1,none⟩=some (.slice (some ⟨R,T,none⟩) n E.uc)/\H.cell? ⟨E.rp,4,none⟩=some (.int .i64 (D:Int)):=⟨c1,c4⟩
  iterate 11(refine ic rfl I (by intro w' Y;obtain⟨hs1,hs2⟩:=Y;go_simp;rfl) ?_;simp only[Act.put,sA,sZ,sC])
  refine ib (w':=H) rfl (by go_simp;rfl) (fun _=>I) ?_;simp only[Act.put,sA,sZ,sC];refine iU (w':=H.setCell ⟨R,T+D,none⟩ (.int .i64 (-2 - y'))) rfl (by go_simp) (by simp) ?_;refine jm ?_;simp only[Act.put];clear r I;go_wp2_with fail
  go_end0
  exact⟨rfl,HR.out⟩
def vX(o:Option Int):Int:=match o with|some n=>n|none=> -1
theorem Am(E:RE)(G:List Dc)(mk:Int)(q:RW)(V:RQ)(w:World)(h:dP E G mk q V w)(t:G.length<=1000000)(a b:Int)(x:ByteArray):
 Calls Tryz.prog 160 #[.pointer (some ⟨E.rp,0,none⟩),.int .i64 a,.int .i64 b,.string x] w fun e w'=>e= .returned (.int .i64 (vX (gz G a b x)))/\Below w.heap.size w w':=by
 have J:=h.gl.rowAt (cells:=dL) (l:=G) rfl rfl (fun _ _=>rfl) rfl;have K:=Cv E.gA G.length E.gc G (decide (a=1)) x w J rfl t;have C:=h.blk;obtain⟨lg,Z⟩:∃z,G.length=z:=⟨_,rfl⟩
 obtain⟨kb,H⟩:∃z,decide (a=1)=z:=⟨_,rfl⟩
 rw[H]at K;rw[Z]at K C;have g:(a==1)=kb:=by rw[<- H,Bool.eq_iff_iff];simp
 cases T:nN G (decide (a=1)) x with
 | none=>
  have D:=Yn T;rw[H]at D;rw[D]at K;have B:vX (gz G a b x)= -1:=by unfold gz;rw[T];rfl
  have N:=kH B;have X:=kH K;have Y:=C.cell 3;have S:=C.lt;clear h J K C Z H t T D B;go_in
  go_wp2_with fail
  refine X.out.mono ?_;rintro u n ⟨rfl,A⟩;go_wp2_with fail
  go_ret
  rw[N.out];exact⟨rfl,A⟩
 | some d=>
  obtain⟨j,hj,m,D,r⟩:=AJ T;rw[H]at D;rw[D]at K;rw[Z]at r t;obtain⟨L,M,Q,F,R⟩:=J j d m;obtain⟨k,P⟩:∃z,d.node=z:=⟨_,rfl⟩
  obtain⟨I,O⟩:∃z,d.kind=z:=⟨_,rfl⟩
  have y:w.cell? ⟨L,M+j*4,none⟩=some (.int .i64 I):=by rw[<- O];simpa using R 0 _ rfl
  have v:w.cell? ⟨L,M+j*4+2,none⟩=some (.int .i64 k):=by rw[<- P];exact R 2 _ rfl
  have B:vX (gz G a b x)=if I=a\/I=b then k else -1:=by
   unfold gz;rw[T];show vX (if d.kind=a\/d.kind=b then some d.node else none)=_;rw[O,P];split<;>rfl
  rw[Q]at C;rw[Q]at K;have Y:=C.cell 3;have S:=C.lt;have X:=kH K;have hj0:¬((j:Int)<0):=by omega
  have hji:(j:Int)<(lg:Int):=by omega
  clear h J K C Z H T hj m D Q R P O;by_cases U:I=a
  ·have N:=kH (B.trans (if_pos (.inl U)))
   clear B;subst U;go_in
   go_wp2_with fail
   refine X.out.mono ?_;rintro u n ⟨rfl,A⟩;have s3:=(A.cell (p:=⟨E.rp,3,none⟩) S).trans Y;have c:=(A.cell (p:=⟨L,M+j*4,none⟩) F).trans y;have s2:=(A.cell (p:=⟨L,M+j*4+2,none⟩) F).trans v;have sl:=Nat.lt_of_lt_of_le S A.size;go_wp2_with fail
   go_ret
   rw[N.out];exact⟨rfl,A⟩
  ·have h1b:(I !=a)=true:=by simpa using U
   by_cases W:I=b
   ·have N:=kH (B.trans (if_pos (.inr W)))
    clear B;subst W;go_in
    go_wp2_with fail
    refine X.out.mono ?_;rintro u n ⟨rfl,A⟩;have s3:=(A.cell (p:=⟨E.rp,3,none⟩) S).trans Y;have c:=(A.cell (p:=⟨L,M+j*4,none⟩) F).trans y;have s2:=(A.cell (p:=⟨L,M+j*4+2,none⟩) F).trans v;have sl:=Nat.lt_of_lt_of_le S A.size;go_wp2_with fail
    go_ret
    rw[N.out];exact⟨rfl,A⟩
   ·have h2b:(I !=b)=true:=by simpa using W
    have f:¬(I=a\/I=b):=fun e=>e.elim U W
    have N:=kH (B.trans (if_neg f));clear U W f B;go_in
    go_wp2_with fail
    refine X.out.mono ?_;rintro u n ⟨rfl,A⟩;have s3:=(A.cell (p:=⟨E.rp,3,none⟩) S).trans Y;have c:=(A.cell (p:=⟨L,M+j*4,none⟩) F).trans y;have s2:=(A.cell (p:=⟨L,M+j*4+2,none⟩) F).trans v;have sl:=Nat.lt_of_lt_of_le S A.size;go_wp2_with fail
    go_ret
    rw[N.out];exact⟨rfl,A⟩
end Go.Proofs.YtoepemlnlpamlaaGreat
