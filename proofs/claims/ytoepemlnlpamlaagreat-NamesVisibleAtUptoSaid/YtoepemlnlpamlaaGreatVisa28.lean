/- The law NamesVisibleAt holds where what it reads is of bulk at most 1048576: it returns true, and its arguments read as before. Part 28: VisC0 VisC1 VisC2 VisD0. -/
import Derived.Test.YtoepemlnlpamlaaGreatVisa26
import Derived.Test.YtoepemlnlpamlaaGreatVisa27
set_option maxRecDepth 100000
set_option maxHeartbeats 4000000
namespace Go.Proofs.YtoepemlnlpamlaaGreat
open Go.RowKit
theorem Ws(E:RC)(G:bC)(B:Nat)(hB:B<=E.base)(x:ByteArray)(a e:Int)(C:List ae)(hih:∀k∈C,gF E G B k):gF E G B (.node 5 x a e C):=by
 intro i s p ms r V w A c h hs T hk y N hv hrb;obtain⟨nk,P⟩:∃q,C.length=q:=⟨_,rfl⟩
 have hvk:C.length=3/\mG false C=true:=by
  rw[qA,if_pos rfl]at hv;simp only[aad,decide_eq_true_eq]at hv;exact hv
 have hq:aM G i (ae.node 5 x a e C) s r=((ah G true C 2 1 ([]::(ah G false C 0 2 [[]] { aW (aG r i (ak (ay s))) 2 r.next (ae.node 5 x a e C) (decide ((aU G.globals x).getD 0≠(r.next:Int))) with owner:=(r.next:Int) }).2) (ah G false C 0 2 [[]] { aW (aG r i (ak (ay s))) 2 r.next (ae.node 5 x a e C) (decide ((aU G.globals x).getD 0≠(r.next:Int))) with owner:=(r.next:Int) }).1).1,s):=by
  rw[dx,if_neg (by decide),if_neg (by decide),if_pos rfl]
 rw[hq];obtain⟨Q,hQ⟩:∃Q,((ah G true C 2 1 ([]::(ah G false C 0 2 [[]] { aW (aG r i (ak (ay s))) 2 r.next (ae.node 5 x a e C) (decide ((aU G.globals x).getD 0≠(r.next:Int))) with owner:=(r.next:Int) }).2) (ah G false C 0 2 [[]] { aW (aG r i (ak (ay s))) 2 r.next (ae.node 5 x a e C) (decide ((aU G.globals x).getD 0≠(r.next:Int))) with owner:=(r.next:Int) }).1).1,s)=Q:=⟨_,rfl⟩
 rw[hQ];have HQ:=kH hQ;clear hq hQ;rw[show aZ (ae.node 5 x a e C) A c= .agg #[.int .i64 5,.string x,.int .i64 a,.int .i64 e,.slice A nk c] by rw[<- P];rfl];obtain⟨J,d,hnb,xL,rU,hrw,hwn,hfx⟩:=DR h hrb P;have H:=kH h;have HS:=kH hs;have HK:Hid (aJ w B A 0 C):=kH hk;have dS:=kH hrb;have fK:=kH P;have lS:=kH hvk;have fE:=kH hih;have Z:Hid (nk<=c):=kH (by rw[<- P];exact y);have dG:=kH N;clear h hs hk hrb P hvk hih hv y N;go_in
 go_upto_if 32 with fail
 generalize hW3:World.alloc (World.alloc (World.setCell w _ _) _) _=W3
 obtain⟨L,gT,iW,jA,iQ,c5,p0,qN,rM⟩:=DN H HS hW3;clear hW3 rU hfx;go_cut [] (fun wx=> ∃Vx,Hid (aX E G (aG r i (ak (ay s))) Vx wx)/\Hid (KX E (fun g=>g=E.vi) W3 wx))
 case first=>
  cases i with
  | false=>
   go_wp2_with fail
   go_meet
   exact⟨V,by have:=L.out;rw[<- d.out]at this;exact kH this,kH (KX.refl _ _ _)⟩
  | true=>
   obtain⟨iT,eY,hs0⟩:=DL L iQ iW dS d hnb;go_wp2_with fail
   go_region_held3 (fun w'=>w'.cell? ⟨E.rp,5,none⟩=some (.map (some E.vi))/\w'.cell? ⟨w.heap.size,0,none⟩=some (.pointer (some ⟨E.rp,0,none⟩))) (exact eY.out _ (by assumption)) ((go_at_call 145;refine iT.out.mono ?_;rintro e5 w5 ⟨v5,rfl,jI,hb5⟩;obtain⟨hs5,w6,hrun,lW,hs7⟩:=DK L hb5 hs0 v5))
   have HX:=kH (DJ L gT dS d dG hb5 jI lW);clear hs5 hs7 lW hb5 jI hs0 hrun;go_wp2_with fail
   go_meet
   exact HX.out
 case rest=>
  obtain⟨Vx,gY,ny⟩:=hcut;obtain⟨HV,HD,qW,HU,sN⟩:=DI hB T gY ny L gT iW jA iQ HK dS d dG hnb;obtain⟨gi,gb,vC,Ag,hlk⟩:=DF gY x;obtain⟨⟨q0,lp⟩,⟨n0,n1,n2,n3,n4,ln⟩,⟨c0,c1,c2,c8,lr⟩⟩:=HV.out.cells;clear c5 p0 qN rM c8;obtain⟨D,Z9⟩:∃D:RS,({ aW (aG r i (ak (ay s))) 2 J (ae.node 5 x a e C) (gi !=(J:Int)) with owner:=(J:Int) }:RS)=D:=⟨_,rfl⟩
  obtain⟨X,hX⟩:∃X,ah G false C 0 2 [[]] D=X:=⟨_,rfl⟩
  have jJ:((ah G true C 2 1 ([]::X.2) X.1).1,s)=Q:=by
   rw[<- HQ.out,<- hX,<- Z9,Tn,<- vC.out,d.out]
  have hsl:rX r D:=by
   have:=dQ.trans (dQ.declare r i (ak (ay s)) 2 (ae.node 5 x a e C) (gi !=(J:Int))) (dQ.owner _ (J:Int));rw[d.out]at this;rw[<- Z9];exact this
  have W:D.next=r.next+1:=by
   rw[<- Z9];have:=sJ r i (ak (ay s)) 2 (ae.node 5 x a e C) (gi !=(J:Int));rw[d.out]at this⊢;exact this
  have hal:(ay ([[]]:aS)).length=0:=rfl;have hsx:rX r X.1:=dQ.trans hsl (by rw[<- hX];exact yU G C false 0 2 _ D)
  have hax:(ay ([]::X.2)).length+r.next<=(ay s).length+X.1.next:=by
   have h1:=je G C false 0 2 [[]] D;rw[hX,hal,W]at h1;rw[qU];show 0+_+_<=_;omega
  have n:X.1.next<=r.next+1+aD ((ae.node 5 x a e C).kids.take 2):=by
   have h1:=rq G C false 0 2 [[]] D;rw[hX,W]at h1;exact h1
  have qo:=kH hsl;have fH:=kH W;have HDD:=kH Z9;have HX:=kH hX;have lI:=kH jJ;have Ca:=kH hsx;have Nz:=kH hax;have YG:=kH n;have v:=fun q=>(HV.out.drewN q).Tj (ae.node 5 x a e C) ⟨rfl,rfl,rfl,rfl,rfl⟩ fK.out HD.out qW.out 2 J HU.out (gi !=(J:Int))
  have Ih:=kH v;clear v jJ hsl W hX Z9 hsx hax n hal;go_wp2_with fail
  go_quiet (fail)
  go_wp2_with fail
  refine(Ih.out _).mono ?_;rintro e8 w8 ⟨rfl,V8,h8⟩;obtain⟨⟨y8,ly8⟩,⟨-,-,-,-,z8,lz8⟩,⟨-,-,-,d8,ld8⟩⟩:=h8.cells;have fo8:=h8.R.blk.frozen 8;obtain⟨Js,wU⟩:=h8.R.QP (J:Int) (fun _=>False);obtain⟨W9,qP⟩:∃W9,w8.setCell ⟨E.rp,8,none⟩ (.int .i64 (J:Int))=W9:=⟨_,rfl⟩
  rw[qP]at Js wU;have l:aX E G D V8 W9:=by rw[<- HDD.out];exact Js
  have h9:=h8.Qf wU l (fun _ _ hf=>hf) (fun _ hf=>hf.elim);obtain⟨ow,how⟩:∃q,(aW (aG r i (ak (ay s))) 2 J (ae.node 5 x a e C) (gi !=(J:Int))).owner=q:=⟨_,rfl⟩
  rw[how]at d8;have u:=h9.GA (p1:=none) (s1:=[]) (ms1:=[]) ⟨rfl,rfl⟩ ⟨List.nodup_nil,fun m hm=>by cases hm⟩;have HIN9:=kH u;have H9:=kH h9;clear how h8 Js l wU h9 u;go_wp2_with (rw[qP])
  refine HIN9.out.mono ?_;rintro e10 aV ⟨b,m,rfl,hm,hb,iw,KG,ZL,z,h10⟩;have hm1:w.heap.size<=m:=aac H9.out.K.size hm;have h11:=h10.other KG;obtain⟨⟨Jb,lq11⟩,⟨-,-,-,-,n11,ln11⟩,-⟩:=h11.cells
  have F:=h11.kids fE.out false 0 2 2 rfl fK.out (by show 0+2<=nk;have:=lS.out.1;have:=fK.out;omega) Z.out lS.out.2 (dS.out.kids (t:=(ae.node 5 x a e C)) qo.out (by have:=fH.out;show 0+r.next<=_;omega) (by rw[fH.out];exact Nat.le_add_right _ _)) ZL (fun g I=>by
   rcases I with I|I
   ·exact .inl (.inl I)
   ·exact .inr (by simp at I;omega))
  rw[HX.out]at F;have HC:=kH F;have HBEL:=kH z;have HM:Hid (W9.heap.size<=m/\w.heap.size<=m):=kH ⟨hm,hm1⟩;clear F h10 h11 hb KG z iw hm hm1 qP fo8 d8 y8 z8 ly8 lz8 ld8;go_wp2_with fail
  refine HC.out.mono ?_;rintro e12 nA ⟨rfl,k12,V12,M⟩
  have Ls:=kH (H9.out.outer T HBEL.out k12 M.R (fun g I=>by
   rcases I with I|I
   ·exact .inl I
   ·exact .inr (by have:=HM.out.1;simp at I;omega)) (.inl rfl))
  have O:=M.GA M.S ZL;have f:=kH O;have HM12:Hid (w.heap.size<=nA.heap.size):=kH M.K.size;clear k12 M O Jb lq11 n11 ln11 HC;go_wp2_with fail
  refine f.out.mono ?_;rintro e13 vg ⟨b2,m2,rfl,hm2,hb2,SB,j,Y,ZV,qj⟩;have eB:w.heap.size<=m2:=aac HM12.out hm2;have zA:=qj.other j;obtain⟨⟨q14,lq14⟩,⟨-,-,-,-,n14,ln14⟩,-⟩:=zA.cells
  have F:=zA.kids fE.out true 2 1 3 rfl fK.out (by show 2+1<=nk;have:=lS.out.1;have:=fK.out;omega) Z.out lS.out.2 (dS.out.kids (t:=(ae.node 5 x a e C)) Ca.out Nz.out YG.out) Y (fun g I=>by
   rcases I with I|I
   ·exact .inl (.inl I)
   ·exact .inr (by simp at I;omega))
  have HC:=kH F;have U:=kH ZV;have HM13:Hid (nA.heap.size<=m2):=kH hm2;clear F qj zA hb2 j ZV SB hm2 eB;go_wp2_with fail
  refine HC.out.mono ?_;rintro e15 IW ⟨rfl,k15,V15,FK⟩
  have HE:Hid (∃V',aX E G Q.1 V' IW/\bL IW E.base p Q.2 ms/\KX E (fun g=>g=E.vi\/ms.head? =some g) w IW):=kH (by
   rw[<- lI.out]
   exact(Ls.out.outer T U.out k15 FK.R (fun g I=>by
    rcases I with I|I
    ·exact .inl I
    ·exact .inr (by have:=HM13.out;simp at I;omega)) (.inl rfl)).end_)
  clear k15 FK HC q14 n14;go_wp2_with fail
  try simp only[Exit.inBlock,Exit.then]
  refine bodyPost_ret (results_none rfl _ _ _) rfl ?_;exact⟨rfl,HE.out⟩
theorem YZ(E:RC)(G:bC)(B:Nat)(hB:B<=E.base)(x:ByteArray)(a e:Int)(C:List ae)(hih:∀k∈C,gF E G B k):gF E G B (.node 16 x a e C):=by
 intro i s p U r V w A c h hs F hk y J hv d;obtain⟨nk,N⟩:∃q,C.length=q:=⟨_,rfl⟩
 have hvk:s.isEmpty=false/\C.length=3/\mG s.isEmpty C=true:=by
  rw[qA,if_neg (by decide),if_neg (by decide),if_pos (by decide)]at hv;simp only[aad,Bool.not_eq_true',Bool.or_eq_true,decide_eq_true_eq]at hv;exact⟨hv.1.1.1,hv.1.2.resolve_left (by decide),hv.2⟩
 have hq:aM G i (ae.node 16 x a e C) s r=((ah G i C 2 1 ((aH G (aG r i (ak (ay s))) 5 r.next (ae.node 16 x a e C) ([]::s)).2.headD []::(ah G i C 0 2 s (aH G (aG r i (ak (ay s))) 5 r.next (ae.node 16 x a e C) ([]::s)).1).2) (ah G i C 0 2 s (aH G (aG r i (ak (ay s))) 5 r.next (ae.node 16 x a e C) ([]::s)).1).1).1,(ah G i C 2 1 ((aH G (aG r i (ak (ay s))) 5 r.next (ae.node 16 x a e C) ([]::s)).2.headD []::(ah G i C 0 2 s (aH G (aG r i (ak (ay s))) 5 r.next (ae.node 16 x a e C) ([]::s)).1).2) (ah G i C 0 2 s (aH G (aG r i (ak (ay s))) 5 r.next (ae.node 16 x a e C) ([]::s)).1).1).2.tail):=by
  rw[dx,if_neg (by decide),if_neg (by decide),if_neg (by decide),if_neg (by decide),if_neg (by decide),if_neg (by decide),if_pos rfl]
 rw[hq];obtain⟨Q,hQ⟩:∃Q,((ah G i C 2 1 ((aH G (aG r i (ak (ay s))) 5 r.next (ae.node 16 x a e C) ([]::s)).2.headD []::(ah G i C 0 2 s (aH G (aG r i (ak (ay s))) 5 r.next (ae.node 16 x a e C) ([]::s)).1).2) (ah G i C 0 2 s (aH G (aG r i (ak (ay s))) 5 r.next (ae.node 16 x a e C) ([]::s)).1).1).1,(ah G i C 2 1 ((aH G (aG r i (ak (ay s))) 5 r.next (ae.node 16 x a e C) ([]::s)).2.headD []::(ah G i C 0 2 s (aH G (aG r i (ak (ay s))) 5 r.next (ae.node 16 x a e C) ([]::s)).1).2) (ah G i C 0 2 s (aH G (aG r i (ak (ay s))) 5 r.next (ae.node 16 x a e C) ([]::s)).1).1).2.tail)=Q:=⟨_,rfl⟩
 rw[hQ];have HQ:=kH hQ;clear hq hQ;rw[show aZ (ae.node 16 x a e C) A c= .agg #[.int .i64 16,.string x,.int .i64 a,.int .i64 e,.slice A nk c] by rw[<- N];rfl];obtain⟨nx,Z,hnb,xL,rU,hrw,hwn,hfx⟩:=DR h d N;have H:=kH h;have HS:=kH hs;have HK:Hid (aJ w B A 0 C):=kH hk;have dS:=kH d;have fK:=kH N;have lS:=kH hvk;have fE:=kH hih;have W:Hid (nk<=c):=kH (by rw[<- N];exact y);have dG:=kH J;clear h hs hk d N hvk hih hv y J;go_in
 go_upto_if 32 with fail
 generalize hW3:World.alloc (World.alloc (World.setCell w _ _) _) _=W3
 obtain⟨I,gT,iW,jA,iQ,c5,p0,qN,rM⟩:=DN H HS hW3;clear hW3 rU hfx;go_cut [] (fun wx=> ∃Vx,Hid (aX E G (aG r i (ak (ay s))) Vx wx)/\Hid (KX E (fun g=>g=E.vi) W3 wx))
 case first=>
  cases i with
  | false=>
   go_wp2_with fail
   go_meet
   exact⟨V,by have:=I.out;rw[<- Z.out]at this;exact kH this,kH (KX.refl _ _ _)⟩
  | true=>
   obtain⟨iT,eY,hs0⟩:=DL I iQ iW dS Z hnb;go_wp2_with fail
   go_region_held3 (fun w'=>w'.cell? ⟨E.rp,5,none⟩=some (.map (some E.vi))/\w'.cell? ⟨w.heap.size,0,none⟩=some (.pointer (some ⟨E.rp,0,none⟩))) (exact eY.out _ (by assumption)) ((go_at_call 145;refine iT.out.mono ?_;rintro e5 w5 ⟨v5,rfl,jI,j⟩;obtain⟨hs5,w6,hrun,lW,hs7⟩:=DK I j hs0 v5))
   have HX:=kH (DJ I gT dS Z dG j jI lW);clear hs5 hs7 lW j jI hs0 hrun;go_wp2_with fail
   go_meet
   exact HX.out
 case rest=>
  obtain⟨Vx,gY,ny⟩:=hcut;obtain⟨HV,HD,qW,HU,sN⟩:=DI hB F gY ny I gT iW jA iQ HK dS Z dG hnb;obtain⟨gi,gb,vC,Ag,hlk⟩:=DF gY x;obtain⟨⟨q0,lp⟩,⟨n0,n1,n2,n3,n4,ln⟩,⟨c0,c1,c2,c8,lr⟩⟩:=HV.out.cells;clear c5 p0 qN rM c8;obtain⟨L,hL⟩:∃L,aH G (aG r i (ak (ay s))) 5 nx (ae.node 16 x a e C) ([]::s)=L:=⟨_,rfl⟩
  obtain⟨l,hl,hl1⟩:=UO G (aG r i (ak (ay s))) 5 nx (ae.node 16 x a e C) s;rw[hL]at hl;obtain⟨X,hX⟩:∃X,ah G i C 0 2 s L.1=X:=⟨_,rfl⟩
  have hsl:rX r L.1:=by
   have:=dQ.og G r i (ak (ay s)) 5 (ae.node 16 x a e C) ([]::s);rw[Z.out,hL]at this;exact this
  have T:L.1.next=r.next+1:=by
   have:=pM G r i (ak (ay s)) 5 (ae.node 16 x a e C) ([]::s);rw[Z.out,hL]at this;rw[this,Z.out]
  have hsx:rX r X.1:=dQ.trans hsl (by rw[<- hX];exact yU G C i 0 2 _ L.1)
  have hax:(ay (l::X.2)).length+r.next<=(ay s).length+X.1.next:=by
   have h1:=je G C i 0 2 s L.1;rw[hX,T]at h1;rw[qU];omega
  have v:X.1.next<=r.next+1+aD ((ae.node 16 x a e C).kids.take 2):=by
   have h1:=rq G C i 0 2 s L.1;rw[hX,T]at h1;exact h1
  have hxl:X.2.length=s.length:=by rw[<- hX];exact kF G C i 0 2 s L.1
  have qo:=kH hsl;have fH:=kH T;have HL:=kH hL;have Nr:=kH hl;have uw:=kH hl1;have HX:=kH hX;have Ca:=kH hsx;have Nz:=kH hax;have YG:=kH v;have VI:=kH hxl;have hin:=fun q=>(HV.out.drewN q).GA (HV.out.drewN q).S F
  have qD:=kH hin;clear hin hsl T hX hsx hax v hl hl1 hL hxl;go_wp2_with fail
  go_quiet (fail)
  go_wp2_with fail
  refine(qD.out _).mono ?_;rintro e8 w8 ⟨b,m,rfl,hm,hb,iw,jH,xK,z,h8⟩;have f:w.heap.size<=m:=aac HV.out.K.size hm;have O:=h8.og (ae.node 16 x a e C) ⟨rfl,rfl,rfl,rfl,rfl⟩ fK.out HD.out qW.out 5 nx HU.out [] s m U jH xK (.inr f);rw[HL.out]at O;have Ll:=kH O;have HOU:Hid (∀{M2:Nat->Prop}{w':World}{r':RS}{V':RV},KX E M2 w8 w'->aX E G r' V' w'->(∀g,M2 g->g=E.vi\/g=m)->VW E G B ⟨C,16,x,a,e,A,nk,c,w.heap.size+1,w.heap.size⟩ w (fun g=>g=E.vi\/U.head? =some g) r' V' s p U w'):=kH (fun hk hr hM2=>(HV.out.drewN _).outer F z hk hr (fun g M=>by rcases hM2 g M with e|e;exact .inl e;exact .inr (by rw[e];exact hm)) (.inl rfl));have vE:=kH hb;have H8:=kH h8;have HM:Hid (w.heap.size<=m):=kH f;obtain⟨⟨q8,BB⟩,⟨u0,u1,u2,u3,u4,lu⟩,⟨-,-,-,-,lr8⟩⟩:=h8.cells;have b0:=hb.cell 0;have b1:=hb.cell 1;have lb8:=hb.lt;clear O hm hb iw jH z h8 f;go_wp2_with fail
  refine Ll.out.mono ?_;rintro e9 w9 ⟨rfl,k9,V9,h9⟩;rw[Nr.out]at h9;have eP:=H8.out.yE k9 vE.out;have hhd:=h9.S.head;obtain⟨SA,hbb,uI,-⟩:=hhd;have MC:=HOU.out k9 h9.R (fun g M=>.inr M);obtain⟨⟨q9,lq9⟩,⟨-,-,-,-,n9,ln9⟩,-⟩:=MC.cells;have D:=MC.kids fE.out i 0 2 2 rfl fK.out (by show 0+2<=nk;have:=lS.out.2.1;have:=fK.out;omega) W.out lS.out.2.2 (dS.out.kids (t:=(ae.node 16 x a e C)) qo.out (by have:=fH.out;omega) (by rw[fH.out];exact Nat.le_add_right _ _)) F (fun g M=>.inl M);rw[HX.out]at D;have HC:=kH D;have HO9:=kH MC;have Ah:=kH eP;have HAM9:=kH SA;have nU:Hid (E.base<=b/\E.base<=m):=kH ⟨hbb,uI⟩;clear D h9 eP SA hbb uI MC k9 q8 BB u0 u1 u2 u3 u4 lu lr8 b0 b1 lb8;go_wp2_with fail
  refine HC.out.mono ?_;rintro e10 aV ⟨rfl,k10,zC,u⟩;have jg:=HO9.out.yE k10 Ah.out
  have OW:¬(m=E.vi\/U.head? =some m):=fun h=>by
   rcases h with h|h
   ·exact(xK.apart m (by simp)).2.2.2 h
   ·refine(List.nodup_cons.1 xK.nodup).1 ?_
    cases U with
    | nil=>cases h
    | cons a t=>simp at h;rw[h];simp
  have IJ:=k10.Tv HAM9.out OW;obtain⟨Y,hY⟩:∃Y,ah G i C 2 1 (l::X.2) X.1=Y:=⟨_,rfl⟩
  have jJ:(Y.1,Y.2.tail)=Q:=by
   rw[<- HQ.out,Z.out,HL.out,HX.out,Nr.out,<- hY];rfl
  have KG:bL aV E.base (some ⟨b,0,none⟩) (l::X.2) (m::U):=⟨b,m,p,U,rfl,rfl,nU.out.1,nU.out.2,jg,IJ,u.S⟩
  have P:=u.other KG;obtain⟨⟨Jb,lq11⟩,⟨-,-,-,-,n11,ln11⟩,-⟩:=P.cells
  have D:=P.kids fE.out i 2 1 3 rfl fK.out (by show 2+1<=nk;have:=lS.out.2.1;have:=fK.out;omega) W.out (by have:=lS.out.2.2;rw[lS.out.1]at this;exact this) (dS.out.kids (t:=(ae.node 16 x a e C)) Ca.out Nz.out YG.out) xK (fun g M=>by
   rcases M with M|M
   ·exact .inl (.inl M)
   ·exact .inr (by have:=HM.out;simp at M;omega))
  rw[hY]at D;have vS:=kH D;have YN:=kH jg;have H11:=kH P;have lI:=kH jJ;clear D u P jg IJ KG k10 OW hY jJ q9 lq9 n9 ln9 HC;go_wp2_with fail
  refine vS.out.mono ?_;rintro e12 nA ⟨rfl,k12,V12,n⟩
  have HE:Hid (∃V',aX E G Q.1 V' nA/\bL nA E.base p Q.2 U/\KX E (fun g=>g=E.vi\/U.head? =some g) w nA):=kH (by
   rw[<- lI.out]
   exact(n.other (bL.tail n.S (H11.out.yE k12 YN.out))).end_)
  clear k12 n vS Jb n11;go_wp2_with fail
  try simp only[Exit.inBlock,Exit.then]
  refine bodyPost_ret (results_none rfl _ _ _) rfl ?_;exact⟨rfl,HE.out⟩
theorem YY(E:RC)(G:bC)(B:Nat)(hB:B<=E.base)(x:ByteArray)(a e:Int)(C:List ae)(hih:∀k∈C,gF E G B k):gF E G B (.node 12 x a e C):=by
 intro i s p ms r V w A c h hs D hk hcap Z hv hrb;obtain⟨nk,j⟩:∃q,C.length=q:=⟨_,rfl⟩
 have hvk:s.isEmpty=false/\C.length=2/\mG s.isEmpty C=true:=by
  rw[qA,if_neg (by decide),if_neg (by decide),if_pos (by decide)]at hv;simp only[aad,Bool.not_eq_true',Bool.or_eq_true,decide_eq_true_eq]at hv;exact⟨hv.1.1.1,hv.1.1.2.resolve_left (by decide),hv.2⟩
 have hq:aM G i (ae.node 12 x a e C) s r=((ah G i C 0 2 s (aH G (aG r i (ak (ay s))) 4 r.next (ae.node 12 x a e C) ([]::s)).1).1,kT (ah G i C 0 2 s (aH G (aG r i (ak (ay s))) 4 r.next (ae.node 12 x a e C) ([]::s)).1).2 ((aH G (aG r i (ak (ay s))) 4 r.next (ae.node 12 x a e C) ([]::s)).2.headD [])):=by
  rw[dx,if_neg (by decide),if_neg (by decide),if_neg (by decide),if_neg (by decide),if_neg (by decide),if_pos rfl]
 rw[hq];obtain⟨Q,hQ⟩:∃Q,((ah G i C 0 2 s (aH G (aG r i (ak (ay s))) 4 r.next (ae.node 12 x a e C) ([]::s)).1).1,kT (ah G i C 0 2 s (aH G (aG r i (ak (ay s))) 4 r.next (ae.node 12 x a e C) ([]::s)).1).2 ((aH G (aG r i (ak (ay s))) 4 r.next (ae.node 12 x a e C) ([]::s)).2.headD []))=Q:=⟨_,rfl⟩
 rw[hQ];have HQ:=kH hQ;clear hq hQ;rw[show aZ (ae.node 12 x a e C) A c= .agg #[.int .i64 12,.string x,.int .i64 a,.int .i64 e,.slice A nk c] by rw[<- j];rfl];obtain⟨nx,bG,hnb,xL,rU,hrw,hwn,hfx⟩:=DR h hrb j;have H:=kH h;have HS:=kH hs;have HK:Hid (aJ w B A 0 C):=kH hk;have dS:=kH hrb;have fK:=kH j;have lS:=kH hvk;have fE:=kH hih;have HCAP:Hid (nk<=c):=kH (by rw[<- j];exact hcap);have dG:=kH Z;clear h hs hk hrb j hvk hih hv hcap Z;go_in
 go_upto_if 32 with fail
 generalize hW3:World.alloc (World.alloc (World.setCell w _ _) _) _=W3
 obtain⟨N,gT,iW,jA,iQ,c5,p0,qN,rM⟩:=DN H HS hW3;clear hW3 rU hfx;go_cut [] (fun wx=> ∃Vx,Hid (aX E G (aG r i (ak (ay s))) Vx wx)/\Hid (KX E (fun g=>g=E.vi) W3 wx))
 case first=>
  cases i with
  | false=>
   go_wp2_with fail
   go_meet
   exact⟨V,by have:=N.out;rw[<- bG.out]at this;exact kH this,kH (KX.refl _ _ _)⟩
  | true=>
   obtain⟨iT,eY,d⟩:=DL N iQ iW dS bG hnb;go_wp2_with fail
   go_region_held3 (fun w'=>w'.cell? ⟨E.rp,5,none⟩=some (.map (some E.vi))/\w'.cell? ⟨w.heap.size,0,none⟩=some (.pointer (some ⟨E.rp,0,none⟩))) (exact eY.out _ (by assumption)) ((go_at_call 145;refine iT.out.mono ?_;rintro e5 w5 ⟨v5,rfl,jI,hb5⟩;obtain⟨hs5,w6,f,lW,hs7⟩:=DK N hb5 d v5))
   have HX:=kH (DJ N gT dS bG dG hb5 jI lW);clear hs5 hs7 lW hb5 jI d f;go_wp2_with fail
   go_meet
   exact HX.out
 case rest=>
  obtain⟨Vx,gY,ny⟩:=hcut;obtain⟨HV,HD,qW,HU,sN⟩:=DI hB D gY ny N gT iW jA iQ HK dS bG dG hnb;obtain⟨gi,gb,vC,Ag,hlk⟩:=DF gY x;obtain⟨⟨q0,lp⟩,⟨n0,n1,n2,n3,n4,ln⟩,⟨c0,c1,c2,c8,lr⟩⟩:=HV.out.cells;clear c5 p0 qN rM c8;obtain⟨L,hL⟩:∃L,aH G (aG r i (ak (ay s))) 4 nx (ae.node 12 x a e C) ([]::s)=L:=⟨_,rfl⟩
  obtain⟨l,hl,hl1⟩:=UO G (aG r i (ak (ay s))) 4 nx (ae.node 12 x a e C) s;rw[hL]at hl;obtain⟨X,hX⟩:∃X,ah G i C 0 2 s L.1=X:=⟨_,rfl⟩
  have hsl:rX r L.1:=by
   have:=dQ.og G r i (ak (ay s)) 4 (ae.node 12 x a e C) ([]::s);rw[bG.out,hL]at this;exact this
  have hne:L.1.next=r.next+1:=by
   have:=pM G r i (ak (ay s)) 4 (ae.node 12 x a e C) ([]::s);rw[bG.out,hL]at this;rw[this,bG.out]
  have hsx:rX r X.1:=dQ.trans hsl (by rw[<- hX];exact yU G C i 0 2 _ L.1)
  have hax:(ay (l::X.2)).length+r.next<=(ay s).length+X.1.next:=by
   have M:=je G C i 0 2 s L.1;rw[hX,hne]at M;rw[qU];omega
  have hnx2:X.1.next<=r.next+1+aD ((ae.node 12 x a e C).kids.take 2):=by
   have M:=rq G C i 0 2 s L.1;rw[hX,hne]at M;exact M
  have hxl:X.2.length=s.length:=by rw[<- hX];exact kF G C i 0 2 s L.1
  have qo:=kH hsl;have fH:=kH hne;have HL:=kH hL;have Nr:=kH hl;have uw:=kH hl1;have HX:=kH hX;have Ca:=kH hsx;have Nz:=kH hax;have YG:=kH hnx2;have VI:=kH hxl;have hin:=fun q=>(HV.out.drewN q).GA (HV.out.drewN q).S D
  have qD:=kH hin;clear hin hsl hne hX hsx hax hnx2 hl hl1 hL hxl;go_wp2_with fail
  go_quiet (fail)
  go_wp2_with fail
  refine(qD.out _).mono ?_;rintro e8 w8 ⟨b,m,rfl,hm,hb,iw,jH,xK,hbel,h8⟩;have hm1:w.heap.size<=m:=aac HV.out.K.size hm;have hvar:=h8.og (ae.node 12 x a e C) ⟨rfl,rfl,rfl,rfl,rfl⟩ fK.out HD.out qW.out 4 nx HU.out [] s m ms jH xK (.inr hm1);rw[HL.out]at hvar;have Ll:=kH hvar;have HOU:Hid (∀{M2:Nat->Prop}{w':World}{r':RS}{V':RV},KX E M2 w8 w'->aX E G r' V' w'->(∀g,M2 g->g=E.vi\/g=m)->VW E G B ⟨C,12,x,a,e,A,nk,c,w.heap.size+1,w.heap.size⟩ w (fun g=>g=E.vi\/ms.head? =some g) r' V' s p ms w'):=kH (fun hk hr hM2=>(HV.out.drewN _).outer D hbel hk hr (fun g hg=>by rcases hM2 g hg with e|e;exact .inl e;exact .inr (by rw[e];exact hm)) (.inl rfl));have vE:=kH hb;have H8:=kH h8;have HM:Hid (w.heap.size<=m):=kH hm1;obtain⟨⟨q8,BB⟩,⟨u0,u1,u2,u3,u4,lu⟩,⟨-,-,-,-,lr8⟩⟩:=h8.cells;have b0:=hb.cell 0;have b1:=hb.cell 1;have lb8:=hb.lt;clear hvar hm hb iw jH hbel h8 hm1;go_wp2_with fail
  refine Ll.out.mono ?_;rintro e9 w9 ⟨rfl,k9,V9,h9⟩;rw[Nr.out]at h9;have eP:=H8.out.yE k9 vE.out;have hhd:=h9.S.head;obtain⟨SA,hbb,uI,-⟩:=hhd;have MC:=HOU.out k9 h9.R (fun g hg=>.inr hg);obtain⟨⟨q9,lq9⟩,⟨-,-,-,-,n9,ln9⟩,-⟩:=MC.cells;have I:=MC.kids fE.out i 0 2 2 rfl fK.out (by show 0+2<=nk;have:=lS.out.2.1;have:=fK.out;omega) HCAP.out lS.out.2.2 (dS.out.kids (t:=(ae.node 12 x a e C)) qo.out (by have:=fH.out;omega) (by rw[fH.out];exact Nat.le_add_right _ _)) D (fun g hg=>.inl hg);rw[HX.out]at I;have HC:=kH I;have HO9:=kH MC;have Ah:=kH eP;have HAM9:=kH SA;have nU:Hid (E.base<=b/\E.base<=m):=kH ⟨hbb,uI⟩;clear I h9 eP SA hbb uI MC k9 q8 BB u0 u1 u2 u3 u4 lu lr8 b0 b1 lb8;go_wp2_with fail
  refine HC.out.mono ?_;rintro e10 O ⟨rfl,k10,zC,h10⟩;have jg:=HO9.out.yE k10 Ah.out
  have OW:¬(m=E.vi\/ms.head? =some m):=fun h=>by
   rcases h with h|h
   ·exact(xK.apart m (by simp)).2.2.2 h
   ·refine(List.nodup_cons.1 xK.nodup).1 ?_
    cases ms with
    | nil=>cases h
    | cons a t=>simp at h;rw[h];simp
  have IJ:=k10.Tv HAM9.out OW
  obtain⟨l0,s0,T⟩:∃l0 s0,X.2=l0::s0:=by
   have M:=VI.out;have h2:=lS.out.1
   cases hx:X.2 with
   | nil=>
    rw[hx]at M
    cases s with
    | nil=>cases h2
    | cons a t=>cases M
   | cons a t=>exact⟨a,t,rfl⟩
  have jJ:(X.1,(l.foldl (fun a y=>dh a y.1 y.2) l0)::s0)=Q:=by
   rw[<- HQ.out,bG.out,HL.out,HX.out,Nr.out,T];rfl
  obtain⟨b0,F,p0,ms0,hp0,hms0,hbb0,hbm0,Qj,SC,hst0⟩:∃b' m' p' ms',p=some ⟨b',0,none⟩/\ms=m'::ms'/\E.base<=b'/\E.base<=m'/\aj O b' 95 #[.pointer p',.map (some m')]/\bA jo O m' (jS l0)/\bL O E.base p' s0 ms':=by
   have:=h10.S;rw[T]at this;exact this
  subst hp0;subst hms0;rw[T]at h10;obtain⟨jB,hr11,hit,il,hsz11⟩:=Bq (P:=Tryz.prog) (t:=70) (kt:=9) (et:=3) Tryz.underlying70 IJ;have d1:=jg.cell 1;have ld:=jg.lt;have hm0m:F≠m:=fun e=>OW (.inr (by rw[e];rfl))
  have hb0m:b0≠F:=fun e=>SC.rJ Qj e.symm
  obtain⟨J,zP⟩:∃J,O.heap.size=J:=⟨_,rfl⟩
  have hmit:m<J:=by rw[<- zP];exact IJ.lt
  have u:F<J:=by rw[<- zP];exact SC.lt
  have U:b0<J:=by rw[<- zP];exact Qj.lt
  have hsA:aF (fun g=>g=F\/J<=g) O jB:=(aF.refl _ O).below il;have HM0:Hid (bA jo jB F (jS l0)):=kH (SC.below il SC.lt);have HIT:=kH hit;have HSA:=kH hsA;have Cm:=kH h10;have HB0:=kH Qj;have lI:=kH jJ;have Ia:Hid (m<J/\F<J/\b0<J/\F≠m/\b0≠F/\O.heap.size=J):=kH ⟨hmit,u,U,hm0m,hb0m,zP⟩;have zD:=kH T;clear hit hsA h10 Qj SC hst0 jJ jg IJ k10 OW hmit u U hm0m hb0m T q9 lq9 n9 ln9 HC hsz11 il hbb0 hbm0;go_wp2_with fail
  first|rw[zP]at HIT⊢ |rw[zP]at HIT
  clear zP;go_loopg [] l.length (fun gk wr=> ∃(left:List (Value×Value)) (lz:lH),gk=left.length/\Hid (nz jo wr m J (jS l) left)/\Hid (aF (fun g=>g=F\/J<=g) O wr)/\Hid (bA jo wr F (jS lz))/\Hid ((left=(jS l).map (fun x=>(jo.qz x.1,x.2))/\lz=l0)\/(left=[]/\lz=(l.foldl (fun a y=>dh a y.1 y.2) l0))))
  case atStart=>exact⟨_,l0,by simp[jS],HIT,HSA,HM0,kH (.inl ⟨rfl,rfl⟩)⟩
  case round=>
   obtain⟨left,lz,hgk',HI,Px,HM',HD'⟩:=hrel;have W:=HB0.out.since Px.out (by have:=Ia.out;omega);rcases Da (P:=Tryz.prog) 0 HI.out (by have:=Ia.out;omega) with⟨hl0,hnx⟩| ⟨kv,vv,left',w2,hperm,hmem,hnx,hit2,GH,hsz2,hent⟩
   ·subst hl0
    have v:lz=(l.foldl (fun a y=>dh a y.1 y.2) l0):=by
     rcases HD'.out with⟨M,h2⟩| ⟨-,h2⟩
     ·have h3:=congrArg List.length M
      simp[jS]at h3;rw[h2,List.length_eq_zero_iff.1 h3.symm];rfl
     ·exact h2
    have d:aF (fun g=>g=F) O wr:=⟨Px.out.os,Px.out.tape,Px.out.output,Px.out.size,fun g hg hn=>Px.out.block g hg (fun h=>h.elim hn (fun h=>by have:=Ia.out;omega))⟩
    have HE:Hid (∃V',aX E G Q.1 V' wr/\bL wr E.base (some ⟨b0,0,none⟩) Q.2 (F::ms0)/\KX E (fun g=>g=E.vi\/(F::ms0).head? =some g) w wr):=kH (by
     rw[<- lI.out,<- v]
     exact(Cm.out.store D d HM'.out (.inl (.inr rfl))).end_)
    clear d v W HI Px HM' HD';go_wp2_with fail
    try simp only[Exit.inBlock,Exit.then]
    refine bodyPost_ret (results_none rfl _ _ _) rfl ?_;exact⟨rfl,HE.out⟩
   ·obtain⟨y,n,hl,hkv,hvv,hleft,v⟩:∃y n,l=[(y,n)]/\kv= .string y/\vv= .int .i64 n/\left'=[]/\lz=l0:=by
     rcases HD'.out with⟨M,h2⟩| ⟨M,-⟩
     ·have h3:=uw.out
      cases hl:l with
      | nil=>
       rw[M,hl]at hperm;exact absurd hperm.length_eq (by simp[jS])
      | cons z l'=>
       rw[hl]at h3;have h4:l'=[]:=by simp at h3;exact h3
       subst h4;obtain⟨y,n⟩:=z;rw[M,hl]at hperm;have h5:=List.perm_singleton.1 hperm.symm;simp only[List.cons.injEq,Prod.mk.injEq]at h5;exact⟨y,n,rfl,h5.1.1,h5.1.2,h5.2,h2⟩
     ·rw[M]at hperm
      exact absurd hperm.length_eq (by simp)
    subst hkv hvv hleft;obtain⟨w3,f,eB,hg3,hz3⟩:=fI (P:=Tryz.prog) (KK:=jo) (t:=70) (kt:=9) (et:=3) Tryz.underlying70 Tryz.underlying9 (HM'.out.since GH (by have:=Ia.out;omega)) y (.int .i64 n);change (Instr.mapUpdate 70 (.map (some F)) (Value.string y) (.int .i64 n)).run Tryz.prog w2=_ at f;rw[yD]at eB;have Y:=W.since GH (by have:=Ia.out;omega);have e1:=Y.cell 1;have le:=Y.lt;have hs2:aF (fun g=>g=F\/J<=g) O w2:=Px.out.trans (aF.mono GH (fun g hg=>.inr (by omega)));have hs3:aF (fun g=>g=F\/J<=g) O w3:=hs2.trans ((aF.refl (fun g=>g=F\/J<=g) w2).grown hg3 (fun k hk=>by cases hk;exact .inl (.inl rfl)));have hit3:=hit2.grown hg3 (by simp;have:=Ia.out;omega) (by simp;have:=Ia.out;omega);have iW:=kH hs3;have HM3:=kH eB;have HI3:=kH hit3;have HLL2:=kH hl;have HLZ:=kH v;have Nn:=kH hperm;clear hs2 hs3 eB hit3 hl v hperm hmem hit2 GH hsz2 hg3 hz3 W Y;go_wp2_with fail
    go_roundg (gk - 1)
    case measure=>have h9:left.length=1:=Nn.out.length_eq;omega
    case rel=>
     refine⟨[],dh l0 y n,by have h9:left.length=1:=Nn.out.length_eq;show gk - 1=0;omega,HI3,iW,?_,kH (.inr ⟨rfl,?_⟩)⟩
     ·rw[HLZ.out]at HM3
      exact HM3
     ·rw[HLL2.out]
      rfl
theorem visit_do(E:RC)(G:bC)(B:Nat)(hB:B<=E.base)(x:ByteArray)(a e:Int)(C:List ae)(hih:∀k∈C,gF E G B k):gF E G B (.node 19 x a e C):=by
 intro i s p ms r V w A c h hs N X W L b v;obtain⟨F,M⟩:∃q,C.length=q:=⟨_,rfl⟩
 have hvk:mG s.isEmpty C=true:=by
  rw[qA,if_neg (by decide),if_neg (by decide),if_neg (by decide)]at b;exact b
 have hq:aM G i (ae.node 19 x a e C) s r=ah G i C 0 C.length s (iR G s r (aG r i (ak (ay s))) (ae.node 19 x a e C)):=by
  rw[dx];repeat (rw[if_neg (by decide)])
 rw[hq];obtain⟨Q,hQ⟩:∃Q,ah G i C 0 C.length s (iR G s r (aG r i (ak (ay s))) (ae.node 19 x a e C))=Q:=⟨_,rfl⟩
 rw[hQ];have HQ:=kH hQ;clear hq hQ;rw[show aZ (ae.node 19 x a e C) A c= .agg #[.int .i64 19,.string x,.int .i64 a,.int .i64 e,.slice A F c] by rw[<- M];rfl];obtain⟨nx,f,hnb,xL,rU,hrw,hwn,hfx⟩:=DR h v M;have H:=kH h;have HS:=kH hs;have HK:Hid (aJ w B A 0 C):=kH X;have dS:=kH v;have fK:=kH M;have lS:=kH hvk;have fE:=kH hih;have U:Hid (F<=c):=kH (by rw[<- M];exact W);have dG:=kH L;clear h hs X v M hvk hih b W L;go_in
 go_upto_if 32 with fail
 generalize hW3:World.alloc (World.alloc (World.setCell w _ _) _) _=W3
 obtain⟨I,gT,iW,jA,iQ,c5,p0,qN,rM⟩:=DN H HS hW3;clear hW3 rU hfx;go_cut [] (fun wx=> ∃Vx,Hid (aX E G (aG r i (ak (ay s))) Vx wx)/\Hid (KX E (fun g=>g=E.vi) W3 wx))
 case first=>
  cases i with
  | false=>
   go_wp2_with fail
   go_meet
   exact⟨V,by have:=I.out;rw[<- f.out]at this;exact kH this,kH (KX.refl _ _ _)⟩
  | true=>
   obtain⟨iT,d,hs0⟩:=DL I iQ iW dS f hnb;go_wp2_with fail
   go_region_held3 (fun w'=>w'.cell? ⟨E.rp,5,none⟩=some (.map (some E.vi))/\w'.cell? ⟨w.heap.size,0,none⟩=some (.pointer (some ⟨E.rp,0,none⟩))) (exact d.out _ (by assumption)) ((go_at_call 145;refine iT.out.mono ?_;rintro e5 w5 ⟨v5,rfl,jI,z⟩;obtain⟨u,w6,hrun,lW,n⟩:=DK I z hs0 v5))
   have HX:=kH (DJ I gT dS f dG z jI lW);clear u n lW z jI hs0 hrun;go_wp2_with fail
   go_meet
   exact HX.out
 case rest=>
  obtain⟨Vx,gY,ny⟩:=hcut;obtain⟨HV,HD,qW,HU,sN⟩:=DI hB N gY ny I gT iW jA iQ HK dS f dG hnb;obtain⟨O,gb,vC,Ag,hlk⟩:=DF gY x;obtain⟨⟨q0,lp⟩,⟨n0,n1,n2,n3,n4,ln⟩,⟨c0,c1,c2,c8,lr⟩⟩:=HV.out.cells;clear c5 p0 qN rM c8;obtain⟨P,rO⟩:∃P,((aU G.globals x).filter fun j=>decide (jM G j=5))=P:=⟨_,rfl⟩
  have HTQ:=kH rO
  have jJ:ah G i C 0 F s (gV (aG r i (ak (ay s))) nx (ae.node 19 x a e C) P)=Q:=by
   rw[<- HQ.out,fK.out,<- rO,<- f.out];rfl
  have lI:=kH jJ;have qo:Hid (rX r (gV (aG r i (ak (ay s))) nx (ae.node 19 x a e C) P)):=kH (by have:=dQ.Ev r i (ak (ay s)) (ae.node 19 x a e C) P;rw[f.out]at this;exact this);have fH:Hid ((gV (aG r i (ak (ay s))) nx (ae.node 19 x a e C) P).next=r.next+1):=kH (by cases P<;>rfl);clear jJ;obtain⟨kk,T⟩:∃q,jM G O=q:=⟨_,rfl⟩
  have hty:∀k,P=some k->k=O:=fun k X=>by
   rw[<- rO]at X;rw[<- vC.out]
   cases hl:bE G.globals x with
   | none=>rw[show aU G.globals x=none from hl]at X;cases X
   | some y=>
    rw[show aU G.globals x=some y from hl]at X;have:=(Option.filter_eq_some_iff.1 X).1;simp only[aag]at this;rw[<- this];rfl
  have htb:P.isSome=(gb&&(kk==5)):=by
   rw[<- rO,<- Ag.out,<- T,<- vC.out]
   cases hl:bE G.globals x with
   | none=>rw[show aU G.globals x=none from hl];rfl
   | some y=>
    rw[show aU G.globals x=some y from hl];show(Option.filter (fun j=>decide (jM G j=5)) (some y)).isSome=(true&&(jM G y==5));by_cases hy:jM G y=5
    ·simp[hy]
    ·simp[hy]
  have jy:∀r' l w',VW E G B ⟨C,19,x,a,e,A,F,c,w.heap.size+1,w.heap.size⟩ w (fun g=>g=E.vi\/ms.head? =some g) r' l s p ms w'->(w'.cell? ⟨w.heap.size,0,none⟩=some (.pointer (some ⟨E.rp,0,none⟩))/\w'.cell? ⟨w.heap.size+1,0,none⟩=some (.int .i64 19)/\w'.cell? ⟨w.heap.size+1,1,none⟩=some (.string x)/\w'.cell? ⟨w.heap.size+1,2,none⟩=some (.int .i64 a)/\w'.cell? ⟨w.heap.size+1,3,none⟩=some (.int .i64 e)/\w'.cell? ⟨w.heap.size+1,4,none⟩=some (.slice A F c)/\w'.cell? ⟨E.rp,2,none⟩=some (.map (some E.k))/\(Instr.lookup 71 (.map (some E.k)) (.int .i64 O) false).run Tryz.prog w'= .ok (.int .i64 kk) w'):=fun r' l w' b=>by
   obtain⟨⟨y0,-⟩,⟨z0,z1,z2,z3,z4,-⟩,⟨-,-,d2,-,-⟩⟩:=b.cells;exact⟨y0,z0,z1,z2,z3,z4,d2,by have:=uX w' E.k G.kinds b.R.kn O;rw[show(bE G.kinds O).getD 0=kk from T]at this;exact this⟩
  have d:=kH jy;have m:=fun q=>((HV.out.drewN q).drew).JU (ae.node 19 x a e C) ⟨rfl,rfl,rfl,rfl,rfl⟩ fK.out qW.out nx HU.out P O hty
  rw[htb]at m;have OQ:=fun q=>(HV.out.drewN q).drew
  have TG:=kH OQ;have hlf:=fun q=>uX (wc.drewN q) E.k G.kinds (bA.drewN gY.out.kn q) O
  rw[show(bE G.kinds O).getD 0=kk from T]at hlf;clear jy OQ rO hty htb T
  cases gb with
  | false=>
   rw[Bool.false_and]at m;have qC:=kH m;clear m;go_wp2_with fail
   go_quiet (fail)
   go_wp2_with fail
   have K:=d.out _ _ _ (TG.out nq);refine dD (fun w'=>(w'.cell? ⟨w.heap.size,0,none⟩=some (.pointer (some ⟨E.rp,0,none⟩))/\w'.cell? ⟨w.heap.size+1,0,none⟩=some (.int .i64 19)/\w'.cell? ⟨w.heap.size+1,1,none⟩=some (.string x)/\w'.cell? ⟨w.heap.size+1,2,none⟩=some (.int .i64 a)/\w'.cell? ⟨w.heap.size+1,3,none⟩=some (.int .i64 e)/\w'.cell? ⟨w.heap.size+1,4,none⟩=some (.slice A F c)/\w'.cell? ⟨E.rp,2,none⟩=some (.map (some E.k))/\(Instr.lookup 71 (.map (some E.k)) (.int .i64 O) false).run Tryz.prog w'= .ok (.int .i64 kk) w')) [] [true,true,true,true,true,true,true,true,true,true,true,true,true,true,false] (by kernel_rfl) (by kernel_rfl) rfl (by kernel_rfl) ?_;iterate 14((first|(refine dB (by rfl) K ?_)|(refine bV (by rfl) K (by intro w' Z;obtain⟨hs1,hs2,hs3,hs4,u,hs6,n,jH⟩:=Z;go_simp;rfl) ?_));simp only[Act.put,sA,sZ,sC])
   refine eH (by rfl) (by go_simp) ((qC.out _).mono ?_);rintro e8 w8 ⟨rfl,V8,S⟩;refine⟨_,rfl,fun _=>d.out _ _ _ S,?_⟩;simp only[Act.put,sA,sZ,sC];refine gJ ?_;obtain⟨⟨q8,BB⟩,⟨-,-,-,-,n8,Jh⟩,-⟩:=S.cells;have D:=S.kids fE.out i 0 F F (by omega) fK.out (by show 0+F<=F;omega) U.out lS.out (dS.out.kids (t:=(ae.node 19 x a e C)) qo.out (Nat.add_le_add_left qo.out.next _) (sN.out _ fH.out)) N (fun g hg=>.inl hg);rw[lI.out]at D;have HC:=kH D;clear D S;go_wp2_with fail
   refine HC.out.mono ?_;rintro e10 Y ⟨rfl,-,zC,J⟩;have HE:Hid (∃l,aX E G Q.1 l Y/\bL Y E.base p Q.2 ms/\KX E (fun g=>g=E.vi\/ms.head? =some g) w Y):=kH J.end_;clear J HC q8 n8;go_wp2_with fail
   go_end0
   exact⟨rfl,HE.out⟩
  | true=>
   rw[Bool.true_and]at m;have qC:=kH m;clear m;go_wp2_with fail
   go_quiet (fail)
   go_wp2_with fail
   have K:=d.out _ _ _ (TG.out nq);refine dD (fun w'=>(w'.cell? ⟨w.heap.size,0,none⟩=some (.pointer (some ⟨E.rp,0,none⟩))/\w'.cell? ⟨w.heap.size+1,0,none⟩=some (.int .i64 19)/\w'.cell? ⟨w.heap.size+1,1,none⟩=some (.string x)/\w'.cell? ⟨w.heap.size+1,2,none⟩=some (.int .i64 a)/\w'.cell? ⟨w.heap.size+1,3,none⟩=some (.int .i64 e)/\w'.cell? ⟨w.heap.size+1,4,none⟩=some (.slice A F c)/\w'.cell? ⟨E.rp,2,none⟩=some (.map (some E.k))/\(Instr.lookup 71 (.map (some E.k)) (.int .i64 O) false).run Tryz.prog w'= .ok (.int .i64 kk) w')) [] [true,true,true,true,true,true,true,true,true,true,true,true,true,true,false] (by kernel_rfl) (by kernel_rfl) rfl (by kernel_rfl) ?_;iterate 14((first|(refine dB (by rfl) K ?_)|(refine bV (by rfl) K (by intro w' Z;obtain⟨hs1,hs2,hs3,hs4,u,hs6,n,jH⟩:=Z;go_simp;rfl) ?_));simp only[Act.put,sA,sZ,sC])
   refine eH (by rfl) (by go_simp) ((qC.out _).mono ?_);rintro e8 w8 ⟨rfl,V8,S⟩;refine⟨_,rfl,fun _=>d.out _ _ _ S,?_⟩;simp only[Act.put,sA,sZ,sC];refine gJ ?_;obtain⟨⟨q8,BB⟩,⟨-,-,-,-,n8,Jh⟩,-⟩:=S.cells;have D:=S.kids fE.out i 0 F F (by omega) fK.out (by show 0+F<=F;omega) U.out lS.out (dS.out.kids (t:=(ae.node 19 x a e C)) qo.out (Nat.add_le_add_left qo.out.next _) (sN.out _ fH.out)) N (fun g hg=>.inl hg);rw[lI.out]at D;have HC:=kH D;clear D S;go_wp2_with fail
   refine HC.out.mono ?_;rintro e10 Y ⟨rfl,-,zC,J⟩;have HE:Hid (∃l,aX E G Q.1 l Y/\bL Y E.base p Q.2 ms/\KX E (fun g=>g=E.vi\/ms.head? =some g) w Y):=kH J.end_;clear J HC q8 n8;go_wp2_with fail
   go_end0
   exact⟨rfl,HE.out⟩
end Go.Proofs.YtoepemlnlpamlaaGreat
