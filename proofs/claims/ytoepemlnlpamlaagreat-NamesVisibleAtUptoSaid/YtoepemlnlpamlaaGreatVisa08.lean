/- The law NamesVisibleAt holds where what it reads is of bulk at most 1048576: it returns true, and its arguments read as before. Part 8: ParB ParC ParD ParF ParG. -/
import Derived.Test.YtoepemlnlpamlaaGreatVisa07
set_option maxRecDepth 100000
set_option maxHeartbeats 4000000
namespace Go.Proofs.YtoepemlnlpamlaaGreat
open Go.RowKit
theorem Pd(E:PE)(N:E.Ok)(v:PV)(w:World)(q:PW w E v):Calls Tryz.prog 127 #[.pointer (some ⟨E.gp,0,none⟩)] w (bD E w v (lF E.bs E.l v.st)):=by
 have hgl:=q.blk.lt;have hk2:w.cell? ⟨E.gp,2,none⟩=some (.int .i64 (v.st.k:Int)):=q.blk.cell 2;go_in
 go_wp2_with fail
 generalize O:w.alloc (.cells #[.int .i64 0,.string ⟨#[]⟩,.int .i64 0,.int .i64 0,.slice none 0 0] 24)=W1
 have F:Below w.heap.size w W1:=by rw[<- O];exact ag _ _
 have iE:aj W1 w.heap.size 24 #[.int .i64 0,.string ⟨#[]⟩,.int .i64 0,.int .i64 0,.slice none 0 0]:=by rw[<- O];exact aj.new w _ _
 have hs1:W1.heap.size=w.heap.size+1:=by rw[<- O];simp
 have u:=PM.of_below (E:=E) (v:=v) F;have h1:=q.below F;have P1:=u;have pR:=kH hs1;have jK:=kH u;clear O hs1 u F;refine(uF E N v _ h1).mono ?_;rintro e w2 ⟨rfl,v2,hv2,h2,t⟩;have fU:=kH hv2;have hR2:=t.blk h1 iE;have P2:=P1.trans t;clear hv2 t;go_wp2_with fail
 refine(kM E N v2 [58] _ h2).mono ?_;rintro e w3 ⟨rfl,H,hv3,h3,eB⟩;have fO:=kH hv3;have cZ:=eB.blk h2 hR2;have P3:=P2.trans eB;clear hv3 eB;rw[fU.out]at fO;have hkc:w3.cell? ⟨E.gp,2,none⟩=some (.int .i64 (H.st.k:Int)):=h3.blk.cell 2;obtain⟨D,y⟩:∃x,H.st.k=x:=⟨_,rfl⟩
 rw[y]at hkc;have gT:=kH y;clear y;have his:=fun x w' (h:PW w' E H)=>zl E N H x w' h
 obtain⟨b1,F⟩:∃x,bF E.bs E.l H.st [105,110,116]=x:=⟨_,rfl⟩
 obtain⟨b2,hb2⟩:∃x,bF E.bs E.l H.st [98,111,111,108]=x:=⟨_,rfl⟩
 have T:=kH his;have I:=kH F;have L:=kH hb2;clear his F hb2;go_upto_region 5 with fail
 go_cut [26] (fun s26 wx=>s26= .bool (b1 || b2)/\Below w3.heap.size w3 wx)
 case first=>
  cases b1
  ·go_wp2_with fail
   refine(T.out [105,110,116] _ h3).mono ?_;rintro e w4 ⟨rfl,J⟩;rw[I.out];have f:=h3.below J;go_wp2_with fail
   refine(T.out [98,111,111,108] _ f).mono ?_;rintro e w5 ⟨rfl,hb5⟩;rw[L.out];go_wp2_with fail
   go_meet
   exact⟨by simp,J.trans (hb5.mono J.size)⟩
  ·go_wp2_with fail
   refine(T.out [105,110,116] _ h3).mono ?_;rintro e w4 ⟨rfl,J⟩;rw[I.out];go_wp2_with fail
   go_meet
   exact⟨by simp,J⟩
 case rest=>
  obtain⟨S,P⟩:=hcut;have f:=h3.below P;have ek:=cZ.below P cZ.lt;have P4:=P3.trans (PM.of_below P);obtain⟨bb,z⟩:∃x,(b1 || b2)=x:=⟨_,rfl⟩
  rw[z]at S;subst S;have nU:=kH z;clear z P hkc hk2;cases bb
  ·go_wp2_with fail
   refine(tu E N H 4 [116,121,112,101] _ f).mono ?_;rintro e w5 ⟨⟨u5x,rfl⟩,A,G,R,m⟩;have U:=kH G;have b:=m.blk f ek;have P5:=P4.trans m;clear G m;go_wp2_with fail
   have aN:Hid (lF E.bs E.l v.st=(aI E.l A.st v.st.k 4 (cK E.bs E.l v.st) [aI E.l A.st D 1 [] []],A.st)):=kH (by
    have hc:(bF E.bs E.l (aL E.bs E.l (dK E.l v.st) [58]) [105,110,116] || bF E.bs E.l (aL E.bs E.l (dK E.l v.st) [58]) [98,111,111,108])=false:=by rw[<- fO.out,I.out,L.out,nU.out]
    unfold lF;simp only
    rw[hc,if_neg (by simp),U.out,<- fO.out,gT.out])
   refine(iK E N A _ R D 1 [] (w.heap.size+1)).mono ?_;rintro e Q ⟨rfl,C,ry⟩;have h6:=R.below C;have gI:=b.below C b.lt;have P6:=P5.trans (PM.of_below C);go_wp2_with fail
   generalize j:Q.alloc (.cells #[.int .i64 1,.string (bf []),.int .i64 (bP E.l A.st D []),.int .i64 (A.st.last:Int),.slice none 0 0] 24)=w7
   have M:Below Q.heap.size Q w7:=by rw[<- j];exact ag _ _
   have K:w7.heap.size=Q.heap.size+1:=by rw[<- j];simp
   have lQ:=aC.keeps (bZ.of_below M) _ _ ry;have h7:=h6.below M;have Y:=gI.below M gI.lt;have P7:=P6.trans (PM.of_below M);clear j;have nQ:=kH (j5 lQ (by have:=Y.lt;omega));generalize oz:w7.alloc (.cells #[.int .i64 1,.string (bf []),.int .i64 (bP E.l A.st D []),.int .i64 (A.st.last:Int),.slice none 0 0] 24)=w8 at nQ⊢
   have V:Below w7.heap.size w7 w8:=by rw[<- oz];exact ag _ _
   have Z:=h7.below V;have d:=Y.below V Y.lt;have P8:=P7.trans (PM.of_below V);clear oz;obtain⟨B,X⟩:∃B,B=A:=⟨_,rfl⟩
   have gQ:Hid (B.st=A.st):=kH (by rw[X]);rw[<- X]at Z P8;rw[<- K];clear X K;refine(dV E N B _ Z v.st.k 4 (cK E.bs E.l v.st) (w.heap.size+1) (some ⟨w7.heap.size,0,none⟩) 1 1 [aI E.l A.st D 1 [] []] nQ.out).mono ?_;rintro e w9 ⟨rfl,W,nE⟩;have h9:=Z.below W;have c:=d.below W d.lt;obtain⟨⟨r0,r1,r2,r3,r4⟩,g0,g1,g2,g3,g4⟩:=c.five;go_wp2_with fail
   have aO:=kH (bJ (v:=v) h9 (P8.trans (PM.of_below W)) rfl c hgl nE);clear nE;refine bodyPost_ret (v:=.agg #[.int .i64 4,.string (bf (cK E.bs E.l v.st)),.int .i64 (bP E.l B.st v.st.k [aI E.l A.st D 1 [] []]),.int .i64 (B.st.last:Int),.slice (some ⟨w7.heap.size,0,none⟩) 1 1]) (by simp[results,Tryz.results127,go_sem,r0,r1,r2,r3,r4]) rfl ?_;exact Eq.mp (congrArg (fun r=>bD E w v r _ _) (show(aI E.l B.st v.st.k 4 (cK E.bs E.l v.st) [aI E.l A.st D 1 [] []],B.st)=_ by rw[aN.out,gQ.out])) aO.out
  ·have hk5:bM E.l H.st≠5:=by
    intro R;have:=nU.out;rw[<- I.out,<- L.out]at this;unfold bF at this;rw[R]at this;simp at this
   have yA:=kH hk5;clear hk5;go_wp2_with fail
   refine(rf E N H _ f yA.out).mono ?_;rintro e w5 ⟨rfl,R,m⟩;have b:=m.blk f ek;have P5:=P4.trans m;obtain⟨A,G⟩:∃A:PV,(⟨aB E.l H.st,H.lv⟩:PV)=A:=⟨_,rfl⟩
   rw[G]at R P5;have U:Hid (A.st=aB E.l H.st):=kH (by rw[<- G]);obtain⟨g,n⟩:∃x,bK E.bs E.l H.st.k=x:=⟨_,rfl⟩
   rw[n];have HWD:=kH n;clear G m n
   have aN:Hid (lF E.bs E.l v.st=(aI E.l A.st v.st.k 4 (cK E.bs E.l v.st) [aI E.l A.st D 9 g []],A.st)):=kH (by
    have hc:(bF E.bs E.l (aL E.bs E.l (dK E.l v.st) [58]) [105,110,116] || bF E.bs E.l (aL E.bs E.l (dK E.l v.st) [58]) [98,111,111,108])=true:=by rw[<- fO.out,I.out,L.out,nU.out]
    unfold lF;simp only
    rw[hc,if_pos rfl,U.out,<- fO.out,HWD.out,gT.out])
   go_wp2_with fail
   refine(iK E N A _ R D 9 g (w.heap.size+1)).mono ?_;rintro e Q ⟨rfl,C,ry⟩;have h6:=R.below C;have gI:=b.below C b.lt;have P6:=P5.trans (PM.of_below C);go_wp2_with fail
   generalize j:Q.alloc (.cells #[.int .i64 9,.string (bf g),.int .i64 (bP E.l A.st D []),.int .i64 (A.st.last:Int),.slice none 0 0] 24)=w7
   have M:Below Q.heap.size Q w7:=by rw[<- j];exact ag _ _
   have K:w7.heap.size=Q.heap.size+1:=by rw[<- j];simp
   have lQ:=aC.keeps (bZ.of_below M) _ _ ry;have h7:=h6.below M;have Y:=gI.below M gI.lt;have P7:=P6.trans (PM.of_below M);clear j;have nQ:=kH (j5 lQ (by have:=Y.lt;omega));generalize oz:w7.alloc (.cells #[.int .i64 9,.string (bf g),.int .i64 (bP E.l A.st D []),.int .i64 (A.st.last:Int),.slice none 0 0] 24)=w8 at nQ⊢
   have V:Below w7.heap.size w7 w8:=by rw[<- oz];exact ag _ _
   have Z:=h7.below V;have d:=Y.below V Y.lt;have P8:=P7.trans (PM.of_below V);clear oz;obtain⟨B,X⟩:∃B,B=A:=⟨_,rfl⟩
   have gQ:Hid (B.st=A.st):=kH (by rw[X]);rw[<- X]at Z P8;rw[<- K];clear X K;refine(dV E N B _ Z v.st.k 4 (cK E.bs E.l v.st) (w.heap.size+1) (some ⟨w7.heap.size,0,none⟩) 1 1 [aI E.l A.st D 9 g []] nQ.out).mono ?_;rintro e w9 ⟨rfl,W,nE⟩;have h9:=Z.below W;have c:=d.below W d.lt;obtain⟨⟨r0,r1,r2,r3,r4⟩,g0,g1,g2,g3,g4⟩:=c.five;go_wp2_with fail
   have aO:=kH (bJ (v:=v) h9 (P8.trans (PM.of_below W)) rfl c hgl nE);clear nE;refine bodyPost_ret (v:=.agg #[.int .i64 4,.string (bf (cK E.bs E.l v.st)),.int .i64 (bP E.l B.st v.st.k [aI E.l A.st D 9 g []]),.int .i64 (B.st.last:Int),.slice (some ⟨w7.heap.size,0,none⟩) 1 1]) (by simp[results,Tryz.results127,go_sem,r0,r1,r2,r3,r4]) rfl ?_;exact Eq.mp (congrArg (fun r=>bD E w v r _ _) (show(aI E.l B.st v.st.k 4 (cK E.bs E.l v.st) [aI E.l A.st D 9 g []],B.st)=_ by rw[aN.out,gQ.out])) aO.out
theorem sF:(Tryz.prog.info? 24).map (fun i=>(i.zero,i.size,i.bytes))=some (some (.agg #[.int .i64 0,.string ⟨#[]⟩,.int .i64 0,.int .i64 0,.slice none 0 0]),5,64):=by kernel_rfl
theorem bY.pushed{w G:World}{lo:Nat}{v D:Value}{n:Nat}{ts:List ae}{t:ae}{H:List Value}{vals:List (List Value)}{o:Obj}
 (I:bW w (fun g=>lo<=g/\some g≠v.ownBlock) ts vals) (J:ts.length=n) (K:aC w (fun g=>lo<=g/\some g≠v.ownBlock) t H)
 (B:aK G lo 24 5 D (n+1) (List.flatten vals++H)) (A:(w.alloc o).grownBy G v.ownBlock) (E:D.ownBlock=v.ownBlock\/D.ownBlock=some (w.alloc o).heap.size):bY G lo D (n+1) (ts++[t]):=by
 refine bY.push I J K B (fun g C F=>(A.block g (by simp;omega) F).trans (Below.heap_alloc w o g C)) ?_;rcases E with h|h
 ·exact .inl h
 ·exact .inr fun g C=>by
   rw[h]at C;simp at C;omega
theorem lG{E:PE}{w C H:World}{v J:PV}{lo:Nat}{G:Value}{n:Nat}{Q:List Value}{o:Obj}(A:PW C E J)(M:PM E w v C J)(I:aK C lo 24 5 G n Q)(P:w.heap.size<=lo)(B:(C.alloc o).grownBy H G.ownBlock):
 PW H E J/\PM E w v H J/\∀g K,aj C g 24 K->G.ownBlock≠some g->aj H g 24 K:=by
 have F:aF (fun g=>G.ownBlock=some g) C H:=((aF.refl (fun g=>G.ownBlock=some g) C).alloc o).grown B (fun k O=>.inl O);refine⟨⟨A.blk.since F (I.cB A.blk (by decide)),A.own.since F (fun g D=>A.own.apart I (by decide) g D),A.toks.since F (fun g D=>A.toks.apart I (by decide) g D),A.at_,A.good,A.last⟩,⟨M.since.step F (fun g D=>.inr (by have:=(I.lt g D).1;omega)),M.fresh⟩,fun g K N L=>N.since F L⟩
theorem Kv{s:bB}{l:List kD}(A:oF l){p:PS}(D:p.k<l.length):Le l p (iO s l p).2:=by
 have B:=Zv (s:=s) (w:=[118,97,114]) A D;have C:=B.trans (uY A B.2);exact C.trans (Rz A C.2)
theorem NK(E:PE)(K:E.Ok)(v:PV)(w:World)(X:PW w E v)(f:Nat)(r:ae×PS)(Y:ug E.bs E.l f v.st=some r):Calls Tryz.prog 129 #[.pointer (some ⟨E.gp,0,none⟩)] w (bD E w v r):=by
 obtain⟨i0,hi0,hz0,hz1,hz2⟩:=info_parts sF
 obtain⟨B,q,hkq,hrq⟩:∃B q,(if bF E.bs E.l (aL E.bs E.l v.st [40]) [41] then some ([],aL E.bs E.l v.st [40]) else mh E.bs E.l f (iO E.bs E.l (aL E.bs E.l v.st [40])).2 [(iO E.bs E.l (aL E.bs E.l v.st [40])).1])=some (B,q)/\r=(aI E.l (aL E.bs E.l q [41]) v.st.k 6 [] B,aL E.bs E.l q [41]):=by
  unfold ug at Y;simp only at Y;split at Y
  ·cases Y
  ·rename_i B q h
   cases Y
   exact⟨B,q,h,rfl⟩
 have VV:=kH hkq;have aN:=kH hrq;clear Y hkq hrq;have hgl:=X.blk.lt;have hk2:w.cell? ⟨E.gp,2,none⟩=some (.int .i64 (v.st.k:Int)):=X.blk.cell 2;go_in
 go_wp2_with fail
 generalize M:w.alloc (.cells #[.int .i64 0,.string ⟨#[]⟩,.int .i64 0,.int .i64 0,.slice none 0 0] 24)=W1
 have F:Below w.heap.size w W1:=by rw[<- M];exact ag _ _
 have iE:aj W1 w.heap.size 24 #[.int .i64 0,.string ⟨#[]⟩,.int .i64 0,.int .i64 0,.slice none 0 0]:=by rw[<- M];exact aj.new w _ _
 have hs1:W1.heap.size=w.heap.size+1:=by rw[<- M];simp
 have W:=PM.of_below (E:=E) (v:=v) F;have h1:=X.below F;have P1:=W;have pR:=kH hs1;have jK:=kH W;clear M hs1 W F;generalize BK:W1.alloc (.cells #[] 24)=w2
 have V:Below W1.heap.size W1 w2:=by rw[<- BK];exact ag _ _
 have hK2:bY w2 (w.heap.size+1) (.slice (some ⟨w.heap.size+1,0,none⟩) 0 0) 0 []:=by
  refine⟨[],?_,rfl,rfl⟩;have hn:=aj.new W1 24 #[];rw[pR.out,BK]at hn;exact aK.block (n:=0) (cur:=#[]) (aab _) hn (by simp[maxLen]) rfl
 have h2:=h1.below V;have hR2:=iE.below V iE.lt;have P2:=P1.trans (PM.of_below V);clear BK;refine(kM E K v [40] _ h2).mono ?_;rintro e w3 ⟨rfl,J,hv3,h3,eB⟩;have fO:=kH hv3;have cZ:=eB.blk h2 hR2;have P3:=P2.trans eB;have hK3:=hK2.keeps (eB.dX h2);have gT:=kH hK3;clear hv3 eB hK2 hK3;have his:=fun x w' (h:PW w' E J)=>zl E K J x w' h
 obtain⟨b1,F⟩:∃x,bF E.bs E.l J.st [41]=x:=⟨_,rfl⟩
 have HIS:=kH his;have S:=kH F;clear his F hk2;go_wp2_with fail
 refine(HIS.out [41] _ h3).mono ?_;rintro e w4 ⟨rfl,N⟩;rw[S.out];have h4:=h3.below N;have ek:=cZ.below N cZ.lt;have P4:=P3.trans (PM.of_below N);have CU:=kH (gT.out.keeps (bZ.of_below N));clear gT;go_upto_if 14 with fail
 go_cut [4] (fun s4 wx=> ∃A n c L,s4= .slice A n c/\bY wx (w.heap.size+1) (.slice A n c) n B/\L.st=q/\PW wx E L/\PM E w v wx L/\aj wx w.heap.size 24 #[.int .i64 0,.string ⟨#[]⟩,.int .i64 0,.int .i64 0,.slice none 0 0])
 case first=>
  cases b1
  ·have R:mh E.bs E.l f (iO E.bs E.l J.st).2 [(iO E.bs E.l J.st).1]=some (B,q):=by
    have:=VV.out;rw[<- fO.out,S.out,if_neg (by simp)]at this;exact this
   have HX:=kH R;clear R VV;go_wp2_with fail
   refine(Fw E K J _ h4).mono ?_;rintro e w5 ⟨k5,t5,a5,z5,A5,n5,c5,rfl,jU,v5,hv5,h5,iC⟩;have HV5:=kH hv5;have eZ:=iC.blk h4 ek;have P5:=P4.trans iC;clear hv5;obtain⟨Wy,MO,SL,FC⟩:=CU.out.keeps (iC.dX h4);have SQ:aC w5 (fun g=>w.heap.size+1<=g/\some g≠(Value.slice (some ⟨w.heap.size+1,0,none⟩) 0 0).ownBlock) _ _:=aC.weak (fun g _ hg=>⟨aac ek.lt hg,fun T=>by obtain⟨_,U,_,_⟩:=CU.out;have:=(U.lt g T.symm).2;omega⟩) _ _ jU;have Q:(Value.slice (some ⟨w.heap.size+1,0,none⟩) 0 0).ownBlock≠some w.heap.size:=fun T=>by have:=(MO.lt _ T).1;omega
   have hrz6:=eZ.lt;have El:=kH MO;have m:=kH SL;have t:=kH SQ;have Hn6:=kH FC;have u:=kH Q;clear MO SL SQ FC Q jU;go_wp2_with (at_builtin;go_must (refine di _ rfl (.tmp 15) (.tmp 18) _ rfl (w.heap.size+1) 24 i0 _ 5 64 Tryz.underlying22 hi0 hz0 hz1 hz2 rfl (.slice (some ⟨w.heap.size+1,0,none⟩) 0 0) 0 (List.flatten Wy) rfl (El.out.alloc _) ⟨w5.heap.size,0,none⟩ 1 1 [.int .i64 k5,.string t5,.int .i64 a5,.int .i64 z5,.slice A5 n5 c5] rfl rfl (ji _ _ _ _ _ _ _ (by go_simp) (by go_simp) (by go_simp) (by go_simp) (by go_simp)) (by simp[Value.oneCell']) (by simp only[maxLen];omega) (by omega) (by simp;omega) ?_);intro vn w6 D C H;obtain⟨A6,c6,nC,-,-⟩:=D.shape;subst nC;have YE:=kH D;have Ig:=kH C;have y:=kH H;clear D C H)
   have Ch:=kH (bY.pushed m.out Hn6.out t.out YE.out Ig.out y.out);obtain⟨h6,P6,MF⟩:=lG h5 P5 El.out (Nat.le_succ _) Ig.out;have gI:=MF _ _ eZ u.out;clear MF;rw[<- HV5.out]at HX;have hts5:(iO E.bs E.l J.st).1=(iO E.bs E.l J.st).1:=rfl;clear hts5;go_loopg [4] f (fun gk s4 wr=> ∃A n c L ts,s4= .slice A n c/\bY wr (w.heap.size+1) (.slice A n c) n ts/\mh E.bs E.l gk L.st ts=some (B,q)/\n<=L.st.k+1/\PW wr E L/\PM E w v wr L/\aj wr w.heap.size 24 #[.int .i64 0,.string ⟨#[]⟩,.int .i64 0,.int .i64 0,.slice none 0 0])
   case atStart=>exact⟨A6,1,c6,v5,[(iO E.bs E.l J.st).1],rfl,Ch.out,HX.out,by omega,h6,P6,gI⟩
   case round=>
    obtain⟨A7,Z,c7,z,pX,rfl,CK,O,uq,h7,P7,fD⟩:=hrel
    cases gk with
    | zero=>simp[mh]at O
    | succ gk=>
     rw[mh]at O;have rZ:=kH O;have Ns:=kH CK;have KQ:=h7.at_;have Ay:=K.most;clear O CK;obtain⟨b7,dF⟩:∃x,bF E.bs E.l z.st [44]=x:=⟨_,rfl⟩
     have j:=kH dF;clear dF;go_wp2_with fail
     refine(gm E K z [44] _ h7).mono ?_;rintro e w8 ⟨rfl,P,ed,b,dY⟩;rw[j.out];have gQ:=kH ed;have eF:=dY.blk h7 fD;have P8:=P7.trans dY;have nQ:=kH (Ns.out.keeps (dY.dX h7));clear ed dY;cases b7
     ·have G:P.st=z.st:=by
       rw[gQ.out];unfold bI;rw[j.out,if_neg (by simp)]
      have hkk:pX=B/\z.st=q:=by
       have:=rZ.out;rw[j.out,if_neg (by simp)]at this;simpa using this
      obtain⟨rfl,vM⟩:=hkk;have Hu:=kH (G.trans vM);clear G vM;go_wp2_with fail
      go_meet
      exact⟨_,_,_,P,rfl,nQ.out,Hu.out,b,P8,eF⟩
     ·have G:P.st=aB E.l z.st:=by
       rw[gQ.out];unfold bI;rw[j.out,if_pos rfl]
      have hnx:mh E.bs E.l gk (iO E.bs E.l P.st).2 (pX++[(iO E.bs E.l P.st).1])=some (B,q):=by
       have:=rZ.out;rw[j.out,if_pos rfl,<- G]at this;exact this
      have BG:P.st.k=z.st.k+1:=by rw[G];rfl
      have bG:=kH hnx;have Sa:Z<=5001:=by omega
      have Lu:=kH BG;clear G hnx BG;go_wp2_with fail
      refine(Fw E K P _ b).mono ?_;rintro e w9 ⟨k9,t9,a9,z9,A9,n9,c9,rfl,nE,v9,gX,h9,fZ⟩;have kE:=kH gX;have eU:=fZ.blk b eF;have P9:=P8.trans fZ;clear gX;obtain⟨Bh,oV,xR,qc⟩:=nQ.out.keeps (fZ.dX b);have xS:aC w9 (fun g=>w.heap.size+1<=g/\some g≠(Value.slice A7 Z c7).ownBlock) _ _:=aC.weak (fun g _ hg=>⟨aac eF.lt hg,fun T=>by obtain⟨_,U,_,_⟩:=nQ.out;have:=(U.lt g T.symm).2;omega⟩) _ _ nE;have CE:(Value.slice A7 Z c7).ownBlock≠some w.heap.size:=fun T=>by have:=(oV.lt _ T).1;omega
      have XU:=eU.lt;have Ce:=kH oV;have Fh:=kH xR;have Fj:=kH xS;have Lj:=kH qc;have Nl:=kH CE;clear oV xR xS qc CE nE;go_wp2_with (at_builtin;go_must (refine di _ rfl (.tmp 22) (.tmp 25) _ rfl (w.heap.size+1) 24 i0 _ 5 64 Tryz.underlying22 hi0 hz0 hz1 hz2 rfl (.slice A7 Z c7) Z (List.flatten Bh) rfl (Ce.out.alloc _) ⟨w9.heap.size,0,none⟩ 1 1 [.int .i64 k9,.string t9,.int .i64 a9,.int .i64 z9,.slice A9 n9 c9] rfl rfl (ji _ _ _ _ _ _ _ (by go_simp) (by go_simp) (by go_simp) (by go_simp) (by go_simp)) (by simp[Value.oneCell']) (by simp only[maxLen];omega) (by omega) (by simp;omega) ?_);intro vn aV D C H;obtain⟨lJ,c10,nC,-,-⟩:=D.shape;subst nC;have Cc:=kH D;have su:=kH C;have Fs:=kH H;clear D C H)
      have sj:=kH (bY.pushed Fh.out Lj.out Fj.out Cc.out su.out Fs.out);obtain⟨h10,jV,ui⟩:=lG h9 P9 Ce.out (Nat.le_succ _) su.out;have dN:=ui _ _ eU Nl.out;clear ui;go_roundg gk
      case measure=>omega
      case rel=>
       refine⟨lJ,Z+1,c10,v9,pX++[(iO E.bs E.l P.st).1],rfl,sj.out,by rw[kE.out];exact bG.out,?_,h10,jV,dN⟩;have hle:=(Kv (s:=E.bs) K.ends (p:=P.st) (by rw[K.len];exact b.at_)).1;rw[kE.out];have:=Lu.out;omega
  ·have R:([],J.st)=(B,q):=by
    have:=VV.out;rw[<- fO.out,S.out,if_pos rfl]at this;exact Option.some.inj this
   cases R
   go_wp2_with fail
   go_meet
   exact⟨_,_,_,J,rfl,CU.out,rfl,h4,P4,ek⟩
 case rest=>
  obtain⟨Ak,nk,ck,L,rfl,hK,Jp,R,hmx,Vr⟩:=hcut;have HKx:=kH hK;have Ej:=kH Jp;clear hK Jp;go_wp2_with fail
  refine(kM E K L [41] _ R).mono ?_;rintro e nA ⟨rfl,I,lC,d,iL⟩;have nT:=kH lC;rw[Ej.out]at nT;have jb:=iL.blk R Vr;have nH:=hmx.trans iL;have pK:=kH (HKx.out.keeps (iL.dX R));clear lC iL;go_wp2_with fail
  refine(dV E K I _ d v.st.k 6 [] (w.heap.size+1) Ak nk ck B pK.out).mono ?_;rintro e vg ⟨rfl,ik,rQ⟩;have qj:=d.below ik;have lZ:=jb.below ik jb.lt;obtain⟨⟨r0,r1,r2,r3,r4⟩,g0,g1,g2,g3,g4⟩:=lZ.five;go_wp2_with fail
  have aO:=kH (bJ (v:=v) qj (nH.trans (PM.of_below ik)) rfl lZ hgl rQ);clear rQ;refine bodyPost_ret (v:=.agg #[.int .i64 6,.string (bf []),.int .i64 (bP E.l I.st v.st.k B),.int .i64 (I.st.last:Int),.slice Ak nk ck]) (by simp[results,Tryz.results129,go_sem,r0,r1,r2,r3,r4]) rfl ?_;exact Eq.mp (congrArg (fun r=>bD E w v r _ _) (show(aI E.l I.st v.st.k 6 [] B,I.st)=_ by rw[aN.out,nT.out])) aO.out
theorem EG{s:bB}{l:List kD}(C:oF l){p:PS}(E:p.k<l.length):Le l p (lF s l p).2:=by
 have D:=uY C E;have B:=D.trans (eO (s:=s) (w:=[58]) C D.2);unfold lF;simp only;split
 ·rename_i A
  refine B.trans (dJ C B.2 ?_).1;rw[Bool.or_eq_true]at A;rcases A with A|A<;>exact fB A
 ·exact B.trans (xE B.2)
theorem WM(E:PE)(C:E.Ok)(v:PV)(w:World)(U:PW w E v)(f:Nat)(r:ae×PS)(W:pU E.bs E.l f v.st=some r)(h5:bM E.l v.st≠5):Calls Tryz.prog 67 #[.pointer (some ⟨E.gp,0,none⟩)] w (bD E w v r):=by
 obtain⟨i0,hi0,hz0,hz1,hz2⟩:=info_parts sF
 obtain⟨B,q,m,b⟩:∃B q,oK E.bs E.l f (lF E.bs E.l (aL E.bs E.l (dK E.l (aB E.l v.st)) [123])).2 [(lF E.bs E.l (aL E.bs E.l (dK E.l (aB E.l v.st)) [123])).1]=some (B,q)/\r=(aI E.l (aL E.bs E.l q [125]) v.st.k 3 (cK E.bs E.l (aB E.l v.st)) B,aL E.bs E.l q [125]):=by
  unfold pU at W;simp only at W;split at W
  ·cases W
  ·rename_i B q h
   cases W
   exact⟨B,q,h,rfl⟩
 have VV:=kH m;have aN:=kH b;have TY:=kH h5;clear W m b h5;have hgl:=U.blk.lt;have hk2:w.cell? ⟨E.gp,2,none⟩=some (.int .i64 (v.st.k:Int)):=U.blk.cell 2;go_in
 go_wp2_with fail
 generalize I:w.alloc (.cells #[.int .i64 0,.string ⟨#[]⟩,.int .i64 0,.int .i64 0,.slice none 0 0] 24)=W1
 have P:Below w.heap.size w W1:=by rw[<- I];exact ag _ _
 have iE:aj W1 w.heap.size 24 #[.int .i64 0,.string ⟨#[]⟩,.int .i64 0,.int .i64 0,.slice none 0 0]:=by rw[<- I];exact aj.new w _ _
 have hs1:W1.heap.size=w.heap.size+1:=by rw[<- I];simp
 have S:=PM.of_below (E:=E) (v:=v) P;have h1:=U.below P;have P1:=S;have pR:=kH hs1;have jK:=kH S;clear I hs1 S P;refine(rf E C v _ h1 TY.out).mono ?_;rintro e w2 ⟨rfl,h2,T⟩;have hR2:=T.blk h1 iE;have P2:=P1.trans T;obtain⟨v2,V⟩:∃vv:PV,(⟨aB E.l v.st,v.lv⟩:PV)=vv:=⟨_,rfl⟩
 rw[V]at h2 P2;have fU:Hid (v2.st=aB E.l v.st):=kH (by rw[<- V]);clear V T;go_wp2_with fail
 refine(uF E C v2 _ h2).mono ?_;rintro e w3 ⟨rfl,v3,hv3,h3,eB⟩;have fO:=kH hv3;have cZ:=eB.blk h2 hR2;have P3:=P2.trans eB;clear hv3 eB;have j:cK E.bs E.l v2.st=cK E.bs E.l (aB E.l v.st):=by rw[fU.out]
 rw[j];rw[fU.out]at fO;clear j hk2;go_wp2_with fail
 refine(kM E C v3 [123] _ h3).mono ?_;rintro e w4 ⟨rfl,v4,hv4,h4,iD⟩;have jf:=kH hv4;have ek:=iD.blk h3 cZ;have P4:=P3.trans iD;clear hv4 iD;rw[fO.out]at jf;go_wp2_with fail
 refine(Pd E C v4 _ h4).mono ?_;rintro e w5 ⟨k5,t5,a5,z5,A5,n5,c5,rfl,jU,v5,hv5,h5,iC⟩;have N:=kH hv5;have eZ:=iC.blk h4 ek;have P5:=P4.trans iC;replace jU:=aC.weak (Q:=fun g=>w.heap.size+1<=g) (fun g _ hg=>aac ek.lt hg) _ _ jU
 clear hv5;rw[jf.out]at N jU;have hx:=VV.out;rw[<- N.out]at hx;have HX:=kH hx
 have hle5:v4.st.k<=v5.st.k:=by
  have:=(EG (s:=E.bs) C.ends (p:=v4.st) (by rw[C.len];exact h4.at_)).1;rw[N.out,<- jf.out];exact this
 clear hx VV;go_wp2_with fail
 have Ch:=kH (j5 jU (by have:=eZ.lt;omega));generalize uJ:w5.alloc (.cells #[.int .i64 k5,.string t5,.int .i64 a5,.int .i64 z5,.slice A5 n5 c5] 24)=w6 at Ch⊢
 have R:Below w5.heap.size w5 w6:=by rw[<- uJ];exact ag _ _
 have h6:=h5.below R;have gI:=eZ.below R eZ.lt;have P6:=P5.trans (PM.of_below R);clear uJ;obtain⟨fld,L⟩:∃x,(lF E.bs E.l (aL E.bs E.l (dK E.l (aB E.l v.st)) [123])).1=x:=⟨_,rfl⟩
 rw[L]at HX Ch;clear L;go_loopg [5] f (fun gk s5 wr=> ∃A n c vx ts,s5= .slice A n c/\bY wr (w.heap.size+1) (.slice A n c) n ts/\oK E.bs E.l gk vx.st ts=some (B,q)/\n<=vx.st.k+1/\PW wr E vx/\PM E w v wr vx/\aj wr w.heap.size 24 #[.int .i64 0,.string ⟨#[]⟩,.int .i64 0,.int .i64 0,.slice none 0 0])
 case atStart=>exact⟨_,1,_,v5,[fld],rfl,Ch.out,HX.out,by omega,h6,P6,gI⟩
 case round=>
  obtain⟨Z,M,z,Y,X,rfl,CK,J,uq,h7,P7,fD⟩:=hrel
  cases gk with
  | zero=>simp[oK]at J
  | succ gk=>
   rw[oK]at J;have rZ:=kH J;have Ns:=kH CK;have KQ:=h7.at_;have Ay:=C.most;clear J CK;obtain⟨b7,dF⟩:∃x,bF E.bs E.l Y.st [44]=x:=⟨_,rfl⟩
   have y:=kH dF;clear dF;go_wp2_with fail
   refine(gm E C Y [44] _ h7).mono ?_;rintro e w8 ⟨rfl,K,ed,O,dY⟩;rw[y.out];have gQ:=kH ed;have eF:=dY.blk h7 fD;have P8:=P7.trans dY;have nQ:=kH (Ns.out.keeps (dY.dX h7));clear ed dY;cases b7
   ·have D:K.st=Y.st:=by
     rw[gQ.out];unfold bI;rw[y.out,if_neg (by simp)]
    have hkk:X=B/\Y.st=q:=by
     have:=rZ.out;rw[y.out,if_neg (by simp)]at this;simpa using this
    obtain⟨rfl,vM⟩:=hkk;have Hu:=kH (D.trans vM);clear D vM;go_wp2_with fail
    refine(kM E C K [125] _ O).mono ?_;rintro e nA ⟨rfl,H,lC,u,iL⟩;have nT:=kH lC;rw[Hu.out]at nT;have jb:=iL.blk O eF;have nH:=P8.trans iL;have pK:=kH (nQ.out.keeps (iL.dX O));clear lC iL;go_wp2_with fail
    refine(dV E C H _ u v.st.k 3 (cK E.bs E.l (aB E.l v.st)) (w.heap.size+1) Z M z X pK.out).mono ?_;rintro e vg ⟨rfl,ik,rQ⟩;have qj:=u.below ik;have lZ:=jb.below ik jb.lt;obtain⟨⟨r0,r1,r2,r3,r4⟩,g0,g1,g2,g3,g4⟩:=lZ.five;go_wp2_with fail
    have aO:=kH (bJ (v:=v) qj (nH.trans (PM.of_below ik)) rfl lZ hgl rQ);clear rQ;refine bodyPost_ret (v:=.agg #[.int .i64 3,.string (bf (cK E.bs E.l (aB E.l v.st))),.int .i64 (bP E.l H.st v.st.k X),.int .i64 (H.st.last:Int),.slice Z M z]) (by simp[results,Tryz.results67,go_sem,r0,r1,r2,r3,r4]) rfl ?_;exact Eq.mp (congrArg (fun r=>bD E w v r _ _) (show(aI E.l H.st v.st.k 3 (cK E.bs E.l (aB E.l v.st)) X,H.st)=_ by rw[aN.out,nT.out])) aO.out
   ·have D:K.st=aB E.l Y.st:=by
     rw[gQ.out];unfold bI;rw[y.out,if_pos rfl]
    have d:oK E.bs E.l gk (lF E.bs E.l K.st).2 (X++[(lF E.bs E.l K.st).1])=some (B,q):=by
     have:=rZ.out;rw[y.out,if_pos rfl,<- D]at this;exact this
    have BG:K.st.k=Y.st.k+1:=by rw[D];rfl
    have bG:=kH d;have Sa:M<=5001:=by omega
    have Lu:=kH BG;clear D d BG;go_wp2_with fail
    refine(Pd E C K _ O).mono ?_;rintro e w9 ⟨k9,t9,a9,z9,A9,n9,c9,rfl,nE,v9,gX,h9,fZ⟩;have kE:=kH gX;have eU:=fZ.blk O eF;have P9:=P8.trans fZ;clear gX;obtain⟨Bh,oV,xR,qc⟩:=nQ.out.keeps (fZ.dX O);have xS:aC w9 (fun g=>w.heap.size+1<=g/\some g≠(Value.slice Z M z).ownBlock) _ _:=aC.weak (fun g _ hg=>⟨aac eF.lt hg,fun e1=>by obtain⟨_,hO4,_,_⟩:=nQ.out;have:=(hO4.lt g e1.symm).2;omega⟩) _ _ nE;have CE:(Value.slice Z M z).ownBlock≠some w.heap.size:=fun e1=>by have:=(oV.lt _ e1).1;omega
    have XU:=eU.lt;have Ce:=kH oV;have Fh:=kH xR;have Fj:=kH xS;have Lj:=kH qc;have Nl:=kH CE;clear oV xR xS qc CE nE;go_wp2_with (at_builtin;go_must (refine di _ rfl (.tmp 21) (.tmp 24) _ rfl (w.heap.size+1) 24 i0 _ 5 64 Tryz.underlying22 hi0 hz0 hz1 hz2 rfl (.slice Z M z) M (List.flatten Bh) rfl (Ce.out.alloc _) ⟨w9.heap.size,0,none⟩ 1 1 [.int .i64 k9,.string t9,.int .i64 a9,.int .i64 z9,.slice A9 n9 c9] rfl rfl (ji _ _ _ _ _ _ _ (by go_simp) (by go_simp) (by go_simp) (by go_simp) (by go_simp)) (by simp[Value.oneCell']) (by simp only[maxLen];omega) (by omega) (by simp;omega) ?_);intro vn aV G F t;obtain⟨lJ,c10,nC,-,-⟩:=G.shape;subst nC;have Cc:=kH G;have su:=kH F;have Fs:=kH t;clear G F t)
    have sj:=kH (bY.pushed Fh.out Lj.out Fj.out Cc.out su.out Fs.out);obtain⟨h10,jV,ui⟩:=lG h9 P9 Ce.out (Nat.le_succ _) su.out;have dN:=ui _ _ eU Nl.out;clear ui;go_roundg gk
    case measure=>omega
    case rel=>
     refine⟨lJ,M+1,c10,v9,X++[(lF E.bs E.l K.st).1],rfl,sj.out,by rw[kE.out];exact bG.out,?_,h10,jV,dN⟩;have hle:=(EG (s:=E.bs) C.ends (p:=K.st) (by rw[C.len];exact O.at_)).1;rw[kE.out];have:=Lu.out;omega
theorem Cw{s:bB}{l:List kD}(J:oF l)(B:qY s l){f:Nat}{A:Fn}{p:PS}{x:List ae}{q:PS}(h:aP s l f A p=some (x,q))(K:p.k<l.length)(L:ReadyF l p A):Le l p q/\ShapeF x A/\Ng s l p q A:=by
 obtain⟨D,x0,M,F,G,H,I⟩:=Zj J B _ A p K L (Nat.lt_succ_self _);have E:=Iu (Nat.le_max_left f D) h;have C:=Iu (Nat.le_max_right f D) F;rw[E]at C;cases C
 exact⟨G,H,I⟩
def VH(E:PE)(w:World)(v:PV)(kids:List ae)(q:PS)(e:Ending)(w':World):Prop:=
 ∃A n c,e= .returned (.slice A n c)/\bY w' w.heap.size (.slice A n c) n kids/\Ae E w v q w'
structure yT (E:PE) (f:Nat):Prop where
 expr:∀(lv:Nat) (v:PV) (w:World) (t:ae) (q:PS),PW w E v->1<=lv->lv<=7->aP E.bs E.l f (.expr lv) v.st=some ([t],q)->Calls Tryz.prog 134 #[.pointer (some ⟨E.gp,0,none⟩),.int .i64 (lv:Int)] w (bD E w v (t,q))
 operand:∀(v:PV) (w:World) (t:ae) (q:PS),PW w E v->aP E.bs E.l f .operand v.st=some ([t],q)->Calls Tryz.prog 185 #[.pointer (some ⟨E.gp,0,none⟩)] w (bD E w v (t,q))
 args:∀(v:PV) (w:World) (kids:List ae) (q:PS),PW w E v->bM E.l v.st≠5->aP E.bs E.l f .args v.st=some (kids,q)->Calls Tryz.prog 138 #[.pointer (some ⟨E.gp,0,none⟩)] w (VH E w v kids q)
 place:∀(v:PV) (w:World) (t:ae) (q:PS),PW w E v->aP E.bs E.l f .place v.st=some ([t],q)->Calls Tryz.prog 139 #[.pointer (some ⟨E.gp,0,none⟩)] w (bD E w v (t,q))
 stmt:∀(v:PV) (w:World) (t:ae) (q:PS),PW w E v->aP E.bs E.l f .stmt v.st=some ([t],q)->Calls Tryz.prog 74 #[.pointer (some ⟨E.gp,0,none⟩)] w (bD E w v (t,q))
 block:∀(v:PV) (w:World) (t:ae) (q:PS),PW w E v->aP E.bs E.l f .block v.st=some ([t],q)->Calls Tryz.prog 131 #[.pointer (some ⟨E.gp,0,none⟩)] w (bD E w v (t,q))
 branch:∀(v:PV) (w:World) (t:ae) (q:PS),PW w E v->bM E.l v.st≠5->aP E.bs E.l f .branch v.st=some ([t],q)->Calls Tryz.prog 135 #[.pointer (some ⟨E.gp,0,none⟩)] w (bD E w v (t,q))
theorem block_any(E:PE)(K:E.Ok)(f:Nat)(IH:∀f',f'<=f->yT E f')(v:PV)(w:World)(t:ae)(q:PS)(T:PW w E v)(hr:aP E.bs E.l (f+1) .block v.st=some ([t],q)):Calls Tryz.prog 131 #[.pointer (some ⟨E.gp,0,none⟩)] w (bD E w v (t,q)):=by
 obtain⟨i0,hi0,hz0,hz1,hz2⟩:=info_parts sF;rw[aP]at hr;have HR:=kH hr;have fE:=kH IH;clear hr IH;have b:=T.blk.lt;have hk2:w.cell? ⟨E.gp,2,none⟩=some (.int .i64 (v.st.k:Int)):=T.blk.cell 2;go_in
 go_wp2_with fail
 generalize L:w.alloc (.cells #[.int .i64 0,.string ⟨#[]⟩,.int .i64 0,.int .i64 0,.slice none 0 0] 24)=W1
 have P:Below w.heap.size w W1:=by rw[<- L];exact ag _ _
 have iE:aj W1 w.heap.size 24 #[.int .i64 0,.string ⟨#[]⟩,.int .i64 0,.int .i64 0,.slice none 0 0]:=by rw[<- L];exact aj.new w _ _
 have hs1:W1.heap.size=w.heap.size+1:=by rw[<- L];simp
 have S:=PM.of_below (E:=E) (v:=v) P;have y:=T.below P;have P1:=S;have pR:=kH hs1;have jK:=kH S;clear L hs1 S P;generalize BK:W1.alloc (.cells #[] 24)=w2
 have Q:Below W1.heap.size W1 w2:=by rw[<- BK];exact ag _ _
 have m:bY w2 (w.heap.size+1) (.slice (some ⟨w.heap.size+1,0,none⟩) 0 0) 0 []:=by
  refine⟨[],?_,rfl,rfl⟩;have hn:=aj.new W1 24 #[];rw[pR.out,BK]at hn;exact aK.block (n:=0) (cur:=#[]) (aab _) hn (by simp[maxLen]) rfl
 have J:=y.below Q;have hR2:=iE.below Q iE.lt;have P2:=P1.trans (PM.of_below Q);clear BK;obtain⟨b0,d⟩:∃x,bF E.bs E.l v.st [123]=x:=⟨_,rfl⟩
 have D:=kH d;clear d;refine(kM E K v [123] _ J).mono ?_;rintro e w3 ⟨rfl,O,hv3,h3,eB⟩;rw[D.out];have fO:=kH hv3;have cZ:=eB.blk J hR2;have P3:=P2.trans eB;have gT:=kH (m.keeps (eB.dX J));clear hv3 eB m hk2;cases b0
 ·have C:O.st=iI E.l v.st 4 [123]:=by
   rw[fO.out];unfold aL;rw[D.out,if_neg (by simp)]
  have aN:Hid ((t,q)=(aI E.l (iI E.l v.st 4 [123]) v.st.k 11 [] [],iI E.l v.st 4 [123])):=kH (by
   have:=HR.out;rw[D.out,if_neg (by simp)]at this;simp at this
   rw[<- this.1,<- this.2])
  replace fO:=kH C
  clear C;go_wp2_with fail
  refine(iK E K O _ h3 v.st.k 11 [] (w.heap.size+1)).mono ?_;rintro e w4 ⟨rfl,R,kZ⟩;have h4:=h3.below R;have ek:=cZ.below R cZ.lt;obtain⟨⟨r0,r1,r2,r3,r4⟩,g0,g1,g2,g3,g4⟩:=ek.five;go_wp2_with fail
  have aO:=kH (bJ (v:=v) h4 (P3.trans (PM.of_below R)) rfl ek b kZ);clear kZ;refine bodyPost_ret (v:=.agg #[.int .i64 11,.string (bf []),.int .i64 (bP E.l O.st v.st.k []),.int .i64 (O.st.last:Int),.slice none 0 0]) (by simp[results,Tryz.results131,go_sem,r0,r1,r2,r3,r4]) rfl ?_;exact Eq.mp (congrArg (fun r=>bD E w v r _ _) (show(aI E.l O.st v.st.k 11 [] [],O.st)=_ by rw[fO.out,aN.out])) aO.out
 ·have C:O.st=aB E.l v.st:=by
   rw[fO.out];unfold aL;rw[D.out,if_pos rfl]
  obtain⟨B,U,hx,hrq⟩:∃B U,aP E.bs E.l f (.tZ []) O.st=some (B,U)/\(t,q)=(aI E.l (aL E.bs E.l U [125]) v.st.k 11 [] B,aL E.bs E.l U [125]):=by
   have:=HR.out;rw[D.out,if_pos rfl]at this;obtain⟨x,p,y,J⟩:=wR this;simp at J;exact⟨x,p,by rw[C];exact y,by rw[<- J.1,<- J.2]⟩
  have HX:=kH hx;have aN:=kH hrq;clear C hx hrq;go_wp2_with fail
  go_loopg [4] f (fun gk s4 wr=> ∃A n c vx ts,s4= .slice A n c/\bY wr (w.heap.size+1) (.slice A n c) n ts/\gk<=f/\aP E.bs E.l gk (.tZ ts) vx.st=some (B,U)/\n<=vx.st.k/\PW wr E vx/\PM E w v wr vx/\aj wr w.heap.size 24 #[.int .i64 0,.string ⟨#[]⟩,.int .i64 0,.int .i64 0,.slice none 0 0])
  case atStart=>exact⟨_,0,_,O,[],rfl,gT.out,aab _,HX.out,Nat.zero_le _,h3,P3,cZ⟩
  case round=>
   obtain⟨Z,N,z,V,X,rfl,CK,hgf,M,uq,h7,P7,fD⟩:=hrel
   cases gk with
   | zero=>simp[aP]at M
   | succ gk=>
    rw[aP]at M;have rZ:=kH M;have Ns:=kH CK;have KQ:=h7.at_;have Ay:=K.most;clear M CK;have C:=Ot E K V wr h7;obtain⟨b7,dF⟩:∃x,mM E.bs E.l V.st=x:=⟨_,rfl⟩
    rw[dF]at C;have gK:=kH dF;have HST:=kH C;clear dF C;go_wp2_with fail
    refine HST.out.mono ?_;rintro e w8 ⟨rfl,dU⟩;have W:=h7.below dU;have eF:=fD.below dU fD.lt;have P8:=P7.trans (PM.of_below dU);have nQ:=kH (Ns.out.keeps (bZ.of_below dU));cases b7
    ·obtain⟨x9,Y,GD,hnx⟩:∃x9 Y,aP E.bs E.l gk .stmt V.st=some ([x9],Y)/\aP E.bs E.l gk (.tZ (X++[x9])) Y=some (B,U):=by
      have:=rZ.out;rw[gK.out,if_neg (by simp)]at this;obtain⟨x,p,y,J⟩:=fA this;exact⟨x,p,y,J⟩
     have hpr:=Cw K.ends K.empty GD (by rw[K.len];exact h7.at_) trivial;have hlt:V.st.k<Y.k:=hpr.2.2 gK.out;have F:=(fE.out gk (by omega)).stmt V w8 x9 Y W GD;have iN:=kH F;have bG:=kH hnx;have Sa:N<=5001:=by omega
     clear hpr GD F hnx;go_wp2_with fail
     refine iN.out.mono ?_;rintro e w9 ⟨k9,t9,a9,z9,A9,n9,c9,rfl,nE,v9,gX,h9,fZ⟩;have kE:=kH gX;have eU:=fZ.blk W eF;have P9:=P8.trans fZ;clear gX;obtain⟨Bh,oV,xR,qc⟩:=nQ.out.keeps (fZ.dX W);have xS:aC w9 (fun g=>w.heap.size+1<=g/\some g≠(Value.slice Z N z).ownBlock) _ _:=aC.weak (fun g _ hg=>⟨aac eF.lt hg,fun e1=>by obtain⟨_,hO4,_,_⟩:=nQ.out;have:=(hO4.lt g e1.symm).2;omega⟩) _ _ nE;have CE:(Value.slice Z N z).ownBlock≠some w.heap.size:=fun e1=>by have:=(oV.lt _ e1).1;omega
     have XU:=eU.lt;have Ce:=kH oV;have Fh:=kH xR;have Fj:=kH xS;have Lj:=kH qc;have Nl:=kH CE;clear oV xR xS qc CE nE;go_wp2_with (at_builtin;go_must (refine di _ rfl (.tmp 19) (.tmp 22) _ rfl (w.heap.size+1) 24 i0 _ 5 64 Tryz.underlying22 hi0 hz0 hz1 hz2 rfl (.slice Z N z) N (List.flatten Bh) rfl (Ce.out.alloc _) ⟨w9.heap.size,0,none⟩ 1 1 [.int .i64 k9,.string t9,.int .i64 a9,.int .i64 z9,.slice A9 n9 c9] rfl rfl (ji _ _ _ _ _ _ _ (by go_simp) (by go_simp) (by go_simp) (by go_simp) (by go_simp)) (by simp[Value.oneCell']) (by simp only[maxLen];omega) (by omega) (by simp;omega) ?_);intro vn aV H G j;obtain⟨lJ,c10,nC,-,-⟩:=H.shape;subst nC;have Cc:=kH H;have su:=kH G;have Fs:=kH j;clear H G j)
     have sj:=kH (bY.pushed Fh.out Lj.out Fj.out Cc.out su.out Fs.out);obtain⟨h10,jV,ui⟩:=lG h9 P9 Ce.out (Nat.le_succ _) su.out;have dN:=ui _ _ eU Nl.out;clear ui;go_roundg gk
     case measure=>omega
     case rel=>
      refine⟨lJ,N+1,c10,v9,X++[x9],rfl,sj.out,by omega,by rw[kE.out];exact bG.out,?_,h10,jV,dN⟩;rw[kE.out];show N+1<=Y.k;omega
    ·have hkk:X=B/\V.st=U:=by
      have:=rZ.out;rw[gK.out,if_pos rfl]at this;simpa using this
     obtain⟨rfl,vM⟩:=hkk;have Hu:=kH vM;clear vM;go_wp2_with fail
     refine(kM E K V [125] _ W).mono ?_;rintro e nA ⟨rfl,I,lC,u,iL⟩;have nT:=kH lC;rw[Hu.out]at nT;have jb:=iL.blk W eF;have nH:=P8.trans iL;have pK:=kH (nQ.out.keeps (iL.dX W));clear lC iL;go_wp2_with fail
     refine(dV E K I _ u v.st.k 11 [] (w.heap.size+1) Z N z X pK.out).mono ?_;rintro e vg ⟨rfl,ik,rQ⟩;have qj:=u.below ik;have lZ:=jb.below ik jb.lt;obtain⟨⟨r0,r1,r2,r3,r4⟩,g0,g1,g2,g3,g4⟩:=lZ.five;go_wp2_with fail
     have aO:=kH (bJ (v:=v) qj (nH.trans (PM.of_below ik)) rfl lZ b rQ);clear rQ;refine bodyPost_ret (v:=.agg #[.int .i64 11,.string (bf []),.int .i64 (bP E.l I.st v.st.k X),.int .i64 (I.st.last:Int),.slice Z N z]) (by simp[results,Tryz.results131,go_sem,r0,r1,r2,r3,r4]) rfl ?_;exact Eq.mp (congrArg (fun r=>bD E w v r _ _) (show(aI E.l I.st v.st.k 11 [] X,I.st)=_ by rw[aN.out,nT.out])) aO.out
end Go.Proofs.YtoepemlnlpamlaaGreat
