/- Collect agrees with the reference. Part 5: VisB2 VisB3 VisX VisC0 VisC1 VisC2 VisD0 VisD1 VisAll Srt1 Srt2 Srt3 Inv. -/
import Derived.Test.YtoepemlnlpamlaaGreatColl04
set_option maxRecDepth 100000
set_option maxHeartbeats 4000000
namespace Go.Proofs.YtoepemlnlpamlaaGreat
open Go.RowKit
theorem Mm(E:RC)(G:bf)(B:Nat)(hB:B<=E.base)(x:ByteArray)(a e:Int)(C:List ae)(y:∀k∈C,fO E G B k):fO E G B (.node 8 x a e C):=by
 intro i s p ms r V w A c h hs K hk R I j W;obtain⟨nk, J⟩:=ag C.length
 have f:s.isEmpty=false/\lG s.isEmpty C=true:=by
  rw[pq,if_neg (by decide),if_neg (by decide),if_pos (by decide)]at j;simp only[acb,Bool.not_eq_true']at j;exact⟨j.1.1.1,j.2⟩
 have hq:aK G i (ae.node 8 x a e C) s r=aj G i C 0 C.length (aJ G (aI r i (aF (aH s))) 3 r.next (ae.node 8 x a e C) s).2 (aJ G (aI r i (aF (aH s))) 3 r.next (ae.node 8 x a e C) s).1:=by
  rw[dz,if_neg (by decide),if_neg (by decide),if_neg (by decide),if_pos (by decide)]
 rw[hq];obtain⟨Q, hQ⟩:=ag (aj G i C 0 C.length (aJ G (aI r i (aF (aH s))) 3 r.next (ae.node 8 x a e C) s).2 (aJ G (aI r i (aF (aH s))) 3 r.next (ae.node 8 x a e C) s).1);rw[hQ];have HQ:=kH hQ;clear hq hQ;rw[show aO (ae.node 8 x a e C) A c= .agg #[.int .i64 8,.string x,.int .i64 a,.int .i64 e,.slice A nk c] by rw[<- J];rfl];obtain⟨X,T,v,yf,qK,ad,af,a1⟩:=Dt h W J;have H:=kH h;have HS:=kH hs;have HK:Hid (aD w B A 0 C):=kH hk;have dR:=kH W;have eT:=kH J;have kP:=kH f;have jo:=kH y;have Y:Hid (nk<=c):=kH (by rw[<- J];exact R);have dK:=kH I;clear h hs hk W J f y j R I;go_in
 go_upto_if 32 with fail
 generalize z:World.alloc (World.alloc (World.setCell w _ _) _) _=W3
 obtain⟨F,iT,iJ,kE,iX,c5,p0,pR,qH⟩:=Dr H HS z;clear z qK a1;go_cut [] (fun wx=> ∃Vx,Hid (aQ E G (aI r i (aF (aH s))) Vx wx)/\Hid (KX E (fun g=>g=E.vi) W3 wx))
 case first=>
  cases i with
  | false=>
   go_wp2_with fail
   go_meet
   exact⟨V,by have:=F.out;rw[<- T.out]at this;exact kH this,kH (KX.refl _ _ _)⟩
  | true=>
   obtain⟨iE,bP,n⟩:=Dq F iX iJ dR T v;go_wp2_with fail
   go_region_held3 (fun w'=>w'.cell? ⟨E.rp,5,none⟩=some (.map (some E.vi))/\w'.cell? ⟨w.heap.size,0,none⟩=some (.pointer (some ⟨E.rp,0,none⟩))) (exact bP.out _ (by assumption)) ((go_at_call 145;refine iE.out.mono ?_;rintro e5 w5 ⟨v5,rfl,jE,U⟩;obtain⟨a6,w6,u,lD,a7⟩:=Dp F U n v5))
   have HX:=kH (Dn F iT dR T dK U jE lD);clear a6 a7 lD U jE n u;go_wp2_with fail
   go_meet
   exact HX.out
 obtain⟨Vx,gJ,ng⟩:=hcut;obtain⟨HV,HD,tJ,HU,rq⟩:=Dm hB K gJ ng F iT iJ kE iX HK dR T dK v;obtain⟨gi,gb,uy,Ag,ab⟩:=Dl gJ x;obtain⟨⟨q0,lp⟩,⟨n0,n1,n2,n3,n4,ln⟩,⟨c0,c1,c2,c8,lr⟩⟩:=HV.out.cells;clear c5 p0 pR qH c8
 obtain⟨l,d,O⟩:∃l d,s=l::d:=by
  have:=kP.out.1
  cases s with
  | nil=>cases this
  | cons l d=>exact⟨l,d,rfl⟩
 obtain⟨m,zX,wQ⟩:∃m zX,ms=m::zX:=by
  have h1:=HV.out.S;rw[O]at h1;obtain⟨b,m,p',a8,h2,h3,-⟩:=h1;exact⟨m,a8,h3⟩
 have jb:aj G i C 0 nk (aJ G (aI r i (aF (aH s))) 3 X (ae.node 8 x a e C) s).2 (aJ G (aI r i (aF (aH s))) 3 X (ae.node 8 x a e C) s).1=Q:=by
  rw[<- HQ.out,eT.out,<- T.out]
 have eQ:=kH jb;have oV:Hid (qM r (aJ G (aI r i (aF (aH s))) 3 X (ae.node 8 x a e C) s).1):=kH (by have:=dY.mR G r i (aF (aH s)) 3 (ae.node 8 x a e C) s;rw[T.out]at this;exact this);have fw:Hid ((aJ G (aI r i (aF (aH s))) 3 X (ae.node 8 x a e C) s).1.next=r.next+1):=kH (by have:=nX G r i (aF (aH s)) 3 (ae.node 8 x a e C) s;rw[T.out]at this⊢;exact this);have L:=fun q=>(HV.out.drewN q).mR (ae.node 8 x a e C) ⟨rfl,rfl,rfl,rfl,rfl⟩ eT.out HD.out tJ.out 3 X HU.out l d m zX (by have:=(HV.out.drewN q).S;rw[O,wQ]at this;exact this) (by rw[<- wQ];exact K) (.inl (.inr (by rw[wQ];rfl)))
 rw[<- O,<- wQ]at L;have Kj:=kH L;clear L jb O wQ;go_wp2_with fail
 go_quiet (fail)
 go_wp2_with fail
 refine(Kj.out _).mono ?_;rintro e8 w8 ⟨rfl,-,V8,h8⟩;obtain⟨⟨q8,Bj⟩,⟨-,-,-,-,n8,I1⟩,-⟩:=h8.cells;have D:=h8.kids jo.out i 0 nk nk (by omega) eT.out (by show 0+nk<=nk;omega) Y.out (by rw[CQ (zI G _ 3 X (ae.node 8 x a e C) s)];exact kP.out.2) (dR.out.kids (t:=(ae.node 8 x a e C)) oV.out (by have h1:=Kg G (aI r i (aF (aH s))) 3 X (ae.node 8 x a e C) s;rw[fw.out];omega) (rq.out _ fw.out)) K (fun g hg=>.inl hg);rw[eQ.out]at D;have HC:=kH D;clear D h8;go_wp2_with fail
 refine HC.out.mono ?_;rintro aa eP ⟨rfl,-,zq,Z⟩;have HE:Hid (∃V',aQ E G Q.1 V' eP/\bY eP E.base p Q.2 ms/\KX E (fun g=>g=E.vi\/ms.head? =some g) w eP):=kH Z.end_;clear Z HC q8 n8;go_wp2_with fail
 go_end0
 exact⟨rfl,HE.out⟩
theorem SE(E:RC)(G:bf)(B:Nat)(hB:B<=E.base)(x:ByteArray)(a e:Int)(C:List ae)(y:∀k∈C,fO E G B k):fO E G B (.node 11 x a e C):=by
 intro i s p ms r V w A c h hs O hk L I hv W;obtain⟨nk, J⟩:=ag C.length
 have j:lG false C=true:=by
  rw[pq,if_neg (by decide),if_pos rfl]at hv;exact hv
 have hq:aK G i (ae.node 11 x a e C) s r=((aj G i C 0 C.length ([]::s) (aI r i (aF (aH s)))).1,(aj G i C 0 C.length ([]::s) (aI r i (aF (aH s)))).2.tail):=by
  rw[dz,if_neg (by decide),if_neg (by decide),if_neg (by decide),if_neg (by decide),if_pos rfl]
 rw[hq];obtain⟨Q, hQ⟩:=ag (((aj G i C 0 C.length ([]::s) (aI r i (aF (aH s)))).1,(aj G i C 0 C.length ([]::s) (aI r i (aF (aH s)))).2.tail));rw[hQ];have HQ:=kH hQ;clear hq hQ;rw[show aO (ae.node 11 x a e C) A c= .agg #[.int .i64 11,.string x,.int .i64 a,.int .i64 e,.slice A nk c] by rw[<- J];rfl];obtain⟨nx,bN,u,yf,qK,ad,af,a1⟩:=Dt h W J;have H:=kH h;have HS:=kH hs;have HK:Hid (aD w B A 0 C):=kH hk;have dR:=kH W;have eT:=kH J;have kP:=kH j;have jo:=kH y;have X:Hid (nk<=c):=kH (by rw[<- J];exact L);have dK:=kH I;clear h hs hk W J j y hv L I;go_in
 go_upto_if 32 with fail
 generalize Y:World.alloc (World.alloc (World.setCell w _ _) _) _=W3
 obtain⟨F,iT,iJ,kE,iX,c5,p0,pR,qH⟩:=Dr H HS Y;clear Y qK a1;go_cut [] (fun wx=> ∃Vx,Hid (aQ E G (aI r i (aF (aH s))) Vx wx)/\Hid (KX E (fun g=>g=E.vi) W3 wx))
 case first=>
  cases i with
  | false=>
   go_wp2_with fail
   go_meet
   exact⟨V,by have:=F.out;rw[<- bN.out]at this;exact kH this,kH (KX.refl _ _ _)⟩
  | true=>
   obtain⟨iE,bP,l⟩:=Dq F iX iJ dR bN u;go_wp2_with fail
   go_region_held3 (fun w'=>w'.cell? ⟨E.rp,5,none⟩=some (.map (some E.vi))/\w'.cell? ⟨w.heap.size,0,none⟩=some (.pointer (some ⟨E.rp,0,none⟩))) (exact bP.out _ (by assumption)) ((go_at_call 145;refine iE.out.mono ?_;rintro e5 w5 ⟨v5,rfl,jE,U⟩;obtain⟨a6,w6,n,lD,a7⟩:=Dp F U l v5))
   have HX:=kH (Dn F iT dR bN dK U jE lD);clear a6 a7 lD U jE l n;go_wp2_with fail
   go_meet
   exact HX.out
 obtain⟨Vx,gJ,ng⟩:=hcut;obtain⟨d,HD,tJ,HU,rq⟩:=Dm hB O gJ ng F iT iJ kE iX HK dR bN dK u;obtain⟨gi,gb,uy,Ag,aa⟩:=Dl gJ x;obtain⟨⟨q0,lp⟩,⟨n0,n1,n2,n3,n4,ln⟩,⟨c0,c1,c2,c8,lr⟩⟩:=d.out.cells;clear c5 p0 pR qH c8;obtain⟨Q1, T⟩:=ag (aj G i C 0 nk ([]::s) (aI r i (aF (aH s))));have jb:(Q1.1,Q1.2.tail)=Q:=by rw[<- HQ.out,<- T,eT.out]
 have bM:=kH T;have eQ:=kH jb;have v:=fun q=>(d.out.drewN q).GL (d.out.drewN q).S O
 have ry:=kH v;clear v T jb;go_wp2_with fail
 go_quiet (fail)
 go_wp2_with fail
 refine(ry.out _).mono ?_;rintro e8 w8 ⟨b,m,rfl,hm,hb,gZ,uK,wO,Z,h8⟩;have ab:w.heap.size<=m:=aca d.out.K.size hm;have h9:=h8.other uK;obtain⟨⟨q8,Bj⟩,⟨-,-,-,-,n8,I1⟩,-⟩:=h9.cells
 have D:=h9.kids jo.out i 0 nk nk (by omega) eT.out (by show 0+nk<=nk;omega) X.out kP.out (dR.out.kids (t:=(ae.node 11 x a e C)) (dY.none_ r i _) (by rw[pY];show 0+(aH s).length+r.next<=(aH s).length+(r.next+1);omega) (rq.out _ rfl)) wO (fun g z=>by
  rcases z with z|z
  ·exact .inl (.inl z)
  exact .inr (by simp at z;omega))
 rw[bM.out]at D;have HC:=kH D;have HB:=kH hb;have H9:=kH h9;clear D h8 h9 hb uK wO Z gZ hm;go_wp2_with fail
 refine HC.out.mono ?_;rintro a8 eP ⟨rfl,f,zq,R⟩
 have HE:Hid (∃V',aQ E G Q.1 V' eP/\bY eP E.base p Q.2 ms/\KX E (fun g=>g=E.vi\/ms.head? =some g) w eP):=kH (by
  rw[<- eQ.out]
  exact(R.other (bY.tail R.S (H9.out.xQ f HB.out))).end_)
 clear R HC q8 n8 f;go_wp2_with fail
 go_end0
 exact⟨rfl,HE.out⟩
section
variable {E:RC}{G:bf}{B:Nat}{N:NB}{w0 w w1 w':World}{M M2:Nat->Prop}{r r':RS}{V V':RV}{s:aR}{p:Option Addr}{ms:List Nat}
theorem VW.outer(h:VW E G B N w0 M r V s p ms w)(D:Ec E ms)(J:Below w.heap.size w w1)(L:KX E M2 w1 w')(O:aQ E G r' V' w')(A:∀g,M2 g->g=E.vi\/w.heap.size<=g)(I:M E.vi):VW E G B N w0 M r' V' s p ms w':=by
 have F:KX E M2 w w':=(KX.of_below (M:=M2) J).trans L (fun g C=>.inl C);refine h.O0 F O (fun m H C=>?_) (fun g C=>?_)
 ·rcases A m C with e|e
  ·exact(D.apart m H).2.2.2 e
  have:=bY.lt h.S m H;omega
 rcases A g C with rfl|e
 ·exact .inl I
 exact .inr (aca h.K.size e)
theorem VW.store{l O:lL}{m:Nat}(h:VW E G B N w0 M r V (l::s) p (m::ms) w)(A:Ec E (m::ms))(H:ak (fun g=>g=m) w w')(Z:aY jS w' m (jM O))(Y:M m\/w0.heap.size<=m):VW E G B N w0 M r V (O::s) p (m::ms) w':=by
 obtain⟨b,t,x,y,rfl,I,U,J,K,W,X⟩:=h.S;simp only[List.cons.injEq]at I;obtain⟨rfl,rfl⟩:=I;have C:=W.isMap;have T:=A.apart m (by simp);have F:=List.nodup_cons.1 A.nodup;have L:KX E (fun g=>g=m) w w':=KX.sQ H rfl J C;refine h.step L (h.R.sQ H T C) ⟨b,m,x,ms,rfl,rfl,U,J,?_,Z,?_⟩ (fun g D=>by rw[D];exact Y)
 ·refine K.since H (fun e=>?_)
  obtain⟨u,v,z⟩:=C;subst e;have:w.heap[b]? =some (Obj.cells _ _ (0,0)):=K;rw[z]at this;cases this
 exact bY.kx L h.R.nG X (fun g D e=>F.1 (by rw[<- e];exact D))
theorem TD(G:bf)(r:RS)(c:Int)(n:Nat)(t:ae)(s:aR):∃l,(aJ G r c n t ([]::s)).2=l::s/\l.length<=1:=by
 unfold aJ;split
 ·exact⟨[],rfl,Nat.zero_le _⟩
 exact⟨[(t.text,(n:Int))],rfl,ab9 _⟩
end
theorem rJ{a b:ByteArray}(h:a.data.toList=b.data.toList):a=b:=by
 obtain⟨a⟩:=a;obtain⟨b⟩:=b;have:a=b:=Array.toList_inj.1 h;rw[this]
theorem dG{P:Program}{ops:Array Oper}{Q:Exit->Act->World->Prop}{S:World->Prop}{ex:List Nat}{k:Nat}{A:List Bool}{o:Oper}{rest:List Oper}{a:Act}{w:World}{f:FuncId}{args:Array Value}(H:Region.wanted o (yielded ops a.tmps)=true)
 (I:(execOp a.eval o).run P w= .ok (.enter f args) w) (h:Calls P f args w fun e w'=> ∃v,e= .returned v/\(ex.contains k=false->S w')/\qa P ops Q S ex (k+1) A rest (a.put o.dst v) w'):qa P ops Q S ex k (false::A) (o::rest) a w:=
 ⟨H,by unfold Oper.wp;rw[I];exact h.mono (fun e w' ⟨v,F,C,D⟩=>by subst F;exact⟨C,D⟩)⟩
theorem UN(E:RC)(G:bf)(B:Nat)(hB:B<=E.base)(x:ByteArray)(a e:Int)(C:List ae)(b3:∀k∈C,fO E G B k):fO E G B (.node 5 x a e C):=by
 intro i s p ms r V w A c h hs Y hk n T hv aq;obtain⟨nk, W⟩:=ag C.length
 have b9:C.length=3/\lG false C=true:=by
  rw[pq,if_pos rfl]at hv;simp only[acb,decide_eq_true_eq]at hv;exact hv
 have hq:aK G i (ae.node 5 x a e C) s r=((aj G true C 2 1 ([]::(aj G false C 0 2 [[]] { aX (aI r i (aF (aH s))) 2 r.next (ae.node 5 x a e C) (decide ((aV G.globals x).getD 0≠(r.next:Int))) with owner:=(r.next:Int) }).2) (aj G false C 0 2 [[]] { aX (aI r i (aF (aH s))) 2 r.next (ae.node 5 x a e C) (decide ((aV G.globals x).getD 0≠(r.next:Int))) with owner:=(r.next:Int) }).1).1,s):=by
  rw[dz,if_neg (by decide),if_neg (by decide),if_pos rfl]
 rw[hq];obtain⟨Q, hQ⟩:=ag (((aj G true C 2 1 ([]::(aj G false C 0 2 [[]] { aX (aI r i (aF (aH s))) 2 r.next (ae.node 5 x a e C) (decide ((aV G.globals x).getD 0≠(r.next:Int))) with owner:=(r.next:Int) }).2) (aj G false C 0 2 [[]] { aX (aI r i (aF (aH s))) 2 r.next (ae.node 5 x a e C) (decide ((aV G.globals x).getD 0≠(r.next:Int))) with owner:=(r.next:Int) }).1).1,s));rw[hQ];have HQ:=kH hQ;clear hq hQ;rw[show aO (ae.node 5 x a e C) A c= .agg #[.int .i64 5,.string x,.int .i64 a,.int .i64 e,.slice A nk c] by rw[<- W];rfl];obtain⟨J,bN,b5,yf,qK,c4,c6,bk⟩:=Dt h aq W;have H:=kH h;have HS:=kH hs;have HK:Hid (aD w B A 0 C):=kH hk;have dR:=kH aq;have eT:=kH W;have kP:=kH b9;have jo:=kH b3;have v:Hid (nk<=c):=kH (by rw[<- W];exact n);have dK:=kH T;clear h hs hk aq W b9 b3 hv n T;go_in
 go_upto_if 32 with fail
 generalize aE:World.alloc (World.alloc (World.setCell w _ _) _) _=W3
 obtain⟨L,iT,iJ,kE,iX,c5,p0,pR,qH⟩:=Dr H HS aE;clear aE qK bk;go_cut [] (fun wx=> ∃Vx,Hid (aQ E G (aI r i (aF (aH s))) Vx wx)/\Hid (KX E (fun g=>g=E.vi) W3 wx))
 case first=>
  cases i with
  | false=>
   go_wp2_with fail
   go_meet
   exact⟨V,by have:=L.out;rw[<- bN.out]at this;exact kH this,kH (KX.refl _ _ _)⟩
  | true=>
   obtain⟨iE,bP,b7⟩:=Dq L iX iJ dR bN b5;go_wp2_with fail
   go_region_held3 (fun w'=>w'.cell? ⟨E.rp,5,none⟩=some (.map (some E.vi))/\w'.cell? ⟨w.heap.size,0,none⟩=some (.pointer (some ⟨E.rp,0,none⟩))) (exact bP.out _ (by assumption)) ((go_at_call 145;refine iE.out.mono ?_;rintro e5 w5 ⟨v5,rfl,jE,an⟩;obtain⟨bl,w6,ar,lD,bm⟩:=Dp L an b7 v5))
   have HX:=kH (Dn L iT dR bN dK an jE lD);clear bl bm lD an jE b7 ar;go_wp2_with fail
   go_meet
   exact HX.out
 obtain⟨Vx,gJ,ng⟩:=hcut;obtain⟨HV,HD,tJ,HU,rq⟩:=Dm hB Y gJ ng L iT iJ kE iX HK dR bN dK b5;obtain⟨gi,gb,uy,Ag,bZ⟩:=Dl gJ x;obtain⟨⟨q0,lp⟩,⟨n0,n1,n2,n3,n4,ln⟩,⟨c0,c1,c2,c8,lr⟩⟩:=HV.out.cells;clear c5 p0 pR qH c8;obtain⟨D,YI⟩:∃D:RS,({ aX (aI r i (aF (aH s))) 2 J (ae.node 5 x a e C) (gi !=(J:Int)) with owner:=(J:Int) }:RS)=D:=⟨_,rfl⟩
 obtain⟨X, hX⟩:=ag (aj G false C 0 2 [[]] D)
 have jb:((aj G true C 2 1 ([]::X.2) X.1).1,s)=Q:=by
  rw[<- HQ.out,<- hX,<- YI,Rw,<- uy.out,bN.out]
 have au:qM r D:=by
  have:=dY.trans (dY.declare r i (aF (aH s)) 2 (ae.node 5 x a e C) (gi !=(J:Int))) (dY.owner _ (J:Int));rw[bN.out]at this;rw[<- YI];exact this
 have z:D.next=r.next+1:=by
  rw[<- YI];have:=qV r i (aF (aH s)) 2 (ae.node 5 x a e C) (gi !=(J:Int));rw[bN.out]at this⊢;exact this
 have b0:(aH ([[]]:aR)).length=0:=rfl;have b8:qM r X.1:=dY.trans au (by rw[<- hX];exact yF G C false 0 2 _ D)
 have b1:(aH ([]::X.2)).length+r.next<=(aH s).length+X.1.next:=by
  have h1:=iI G C false 0 2 [[]] D;rw[hX,b0,z]at h1;rw[pY];show 0+_+_<=_;omega
 have f:X.1.next<=r.next+1+aC ((ae.node 5 x a e C).kids.take 2):=by
  have h1:=qc G C false 0 2 [[]] D;rw[hX,z]at h1;exact h1
 have oV:=kH au;have fw:=kH z;have bd:=kH YI;have HX:=kH hX;have eQ:=kH jb;have Me:=kH b8;have bc:=kH b1;have Xc:=kH f;have l:=fun q=>(HV.out.drewN q).Rp (ae.node 5 x a e C) ⟨rfl,rfl,rfl,rfl,rfl⟩ eT.out HD.out tJ.out 2 J HU.out (gi !=(J:Int))
 have Ic:=kH l;clear l jb au z hX YI b8 b1 f b0;go_wp2_with fail
 go_quiet (fail)
 go_wp2_with fail
 refine(Ic.out _).mono ?_;rintro e8 w8 ⟨rfl,V8,h8⟩;obtain⟨⟨y8,br⟩,⟨-,-,-,-,z8,bs⟩,⟨-,-,-,d8,bn⟩⟩:=h8.cells;have bh:=h8.R.blk.frozen 8;obtain⟨Jb,vN⟩:=h8.R.PN (J:Int) (fun _=>False);obtain⟨W9, nC⟩:=ag (w8.setCell ⟨E.rp,8,none⟩ (.int .i64 (J:Int)));rw[nC]at Jb vN;have d:aQ E G D V8 W9:=by rw[<- bd.out];exact Jb
 have h9:=h8.O0 vN d (fun _ _ hf=>hf) (fun _ hf=>hf.elim);obtain⟨ow, b6⟩:=ag ((aX (aI r i (aF (aH s))) 2 J (ae.node 5 x a e C) (gi !=(J:Int))).owner);rw[b6]at d8;have j:=h9.GL (p1:=none) (s1:=[]) (ms1:=[]) ⟨rfl,rfl⟩ ⟨List.nodup_nil,fun m hm=>by cases hm⟩;have a7:=kH j;have H9:=kH h9;clear b6 h8 Jb d vN h9 j;go_wp2_with (rw[nC])
 refine a7.out.mono ?_;rintro bI eP ⟨b,m,rfl,hm,hb,gZ,xZ,Yp,u,ay⟩;have b4:w.heap.size<=m:=aca H9.out.K.size hm;have ad:=ay.other xZ;obtain⟨⟨bw,aw⟩,⟨-,-,-,-,bt,av⟩,-⟩:=ad.cells
 have F:=ad.kids jo.out false 0 2 2 rfl eT.out (by show 0+2<=nk;have:=kP.out.1;have:=eT.out;omega) v.out kP.out.2 (dR.out.kids (t:=(ae.node 5 x a e C)) oV.out (by have:=fw.out;show 0+r.next<=_;omega) (by rw[fw.out];exact Nat.le_add_right _ _)) Yp (fun g I=>by
  rcases I with I|I
  ·exact .inl (.inl I)
  exact .inr (by simp at I;omega))
 rw[HX.out]at F;have HC:=kH F;have a6:=kH u;have HM:Hid (W9.heap.size<=m/\w.heap.size<=m):=kH ⟨hm,b4⟩;clear F ay ad hb xZ u gZ hm b4 nC bh d8 y8 z8 br bs bn;go_wp2_with fail
 refine HC.out.mono ?_;rintro bM TA ⟨rfl,ba,bB,O⟩
 have ab:=kH (H9.out.outer Y a6.out ba O.R (fun g I=>by
  rcases I with I|I
  ·exact .inl I
  exact .inr (by have:=HM.out.1;simp at I;omega)) (.inl rfl))
 have U:=O.GL O.S Yp;have a1:=kH U;have a8:Hid (w.heap.size<=TA.heap.size):=kH O.K.size;clear ba O U bw aw bt av HC;go_wp2_with fail
 refine a1.out.mono ?_;rintro bT c7 ⟨b2,m2,rfl,ao,bj,al,MR,y,Yy,az⟩;have Yt:w.heap.size<=m2:=aca a8.out ao;have af:=az.other MR;obtain⟨⟨bx,bp⟩,⟨-,-,-,-,bu,bo⟩,-⟩:=af.cells
 have F:=af.kids jo.out true 2 1 3 rfl eT.out (by show 2+1<=nk;have:=kP.out.1;have:=eT.out;omega) v.out kP.out.2 (dR.out.kids (t:=(ae.node 5 x a e C)) Me.out bc.out Xc.out) y (fun g I=>by
  rcases I with I|I
  ·exact .inl (.inl I)
  exact .inr (by simp at I;omega))
 have HC:=kH F;have Z:=kH Yy;have aa:Hid (TA.heap.size<=m2):=kH ao;clear F az af bj MR Yy al ao Yt;go_wp2_with fail
 refine HC.out.mono ?_;rintro bX ax ⟨rfl,bb,bG,Uj⟩
 have HE:Hid (∃V',aQ E G Q.1 V' ax/\bY ax E.base p Q.2 ms/\KX E (fun g=>g=E.vi\/ms.head? =some g) w ax):=kH (by
  rw[<- eQ.out]
  exact(ab.out.outer Y Z.out bb Uj.R (fun g I=>by
   rcases I with I|I
   ·exact .inl I
   exact .inr (by have:=aa.out;simp at I;omega)) (.inl rfl)).end_)
 clear bb Uj HC bx bu;go_wp2_with fail
 try simp only[Exit.inBlock,Exit.then]
 refine bodyPost_ret (results_none rfl _ _ _) rfl ?_;exact⟨rfl,HE.out⟩
theorem Xo(E:RC)(G:bf)(B:Nat)(hB:B<=E.base)(x:ByteArray)(a e:Int)(C:List ae)(an:∀k∈C,fO E G B k):fO E G B (.node 16 x a e C):=by
 intro i s p ms r V w A c h hs F hk u J hv a7;obtain⟨nk, T⟩:=ag C.length
 have aw:s.isEmpty=false/\C.length=3/\lG s.isEmpty C=true:=by
  rw[pq,if_neg (by decide),if_neg (by decide),if_pos (by decide)]at hv;simp only[acb,Bool.not_eq_true',Bool.or_eq_true,decide_eq_true_eq]at hv;exact⟨hv.1.1.1,hv.1.2.resolve_left (by decide),hv.2⟩
 have hq:aK G i (ae.node 16 x a e C) s r=((aj G i C 2 1 ((aJ G (aI r i (aF (aH s))) 5 r.next (ae.node 16 x a e C) ([]::s)).2.headD []::(aj G i C 0 2 s (aJ G (aI r i (aF (aH s))) 5 r.next (ae.node 16 x a e C) ([]::s)).1).2) (aj G i C 0 2 s (aJ G (aI r i (aF (aH s))) 5 r.next (ae.node 16 x a e C) ([]::s)).1).1).1,(aj G i C 2 1 ((aJ G (aI r i (aF (aH s))) 5 r.next (ae.node 16 x a e C) ([]::s)).2.headD []::(aj G i C 0 2 s (aJ G (aI r i (aF (aH s))) 5 r.next (ae.node 16 x a e C) ([]::s)).1).2) (aj G i C 0 2 s (aJ G (aI r i (aF (aH s))) 5 r.next (ae.node 16 x a e C) ([]::s)).1).1).2.tail):=by
  rw[dz,if_neg (by decide),if_neg (by decide),if_neg (by decide),if_neg (by decide),if_neg (by decide),if_neg (by decide),if_pos rfl]
 rw[hq];obtain⟨Q, hQ⟩:=ag (((aj G i C 2 1 ((aJ G (aI r i (aF (aH s))) 5 r.next (ae.node 16 x a e C) ([]::s)).2.headD []::(aj G i C 0 2 s (aJ G (aI r i (aF (aH s))) 5 r.next (ae.node 16 x a e C) ([]::s)).1).2) (aj G i C 0 2 s (aJ G (aI r i (aF (aH s))) 5 r.next (ae.node 16 x a e C) ([]::s)).1).1).1,(aj G i C 2 1 ((aJ G (aI r i (aF (aH s))) 5 r.next (ae.node 16 x a e C) ([]::s)).2.headD []::(aj G i C 0 2 s (aJ G (aI r i (aF (aH s))) 5 r.next (ae.node 16 x a e C) ([]::s)).1).2) (aj G i C 0 2 s (aJ G (aI r i (aF (aH s))) 5 r.next (ae.node 16 x a e C) ([]::s)).1).1).2.tail));rw[hQ];have HQ:=kH hQ;clear hq hQ;rw[show aO (ae.node 16 x a e C) A c= .agg #[.int .i64 16,.string x,.int .i64 a,.int .i64 e,.slice A nk c] by rw[<- T];rfl];obtain⟨nx,y,ar,yf,qK,br,bs,b6⟩:=Dt h a7 T;have H:=kH h;have HS:=kH hs;have HK:Hid (aD w B A 0 C):=kH hk;have dR:=kH a7;have eT:=kH T;have kP:=kH aw;have jo:=kH an;have z:Hid (nk<=c):=kH (by rw[<- T];exact u);have dK:=kH J;clear h hs hk a7 T aw an hv u J;go_in
 go_upto_if 32 with fail
 generalize ad:World.alloc (World.alloc (World.setCell w _ _) _) _=W3
 obtain⟨I,iT,iJ,kE,iX,c5,p0,pR,qH⟩:=Dr H HS ad;clear ad qK b6;go_cut [] (fun wx=> ∃Vx,Hid (aQ E G (aI r i (aF (aH s))) Vx wx)/\Hid (KX E (fun g=>g=E.vi) W3 wx))
 case first=>
  cases i with
  | false=>
   go_wp2_with fail
   go_meet
   exact⟨V,by have:=I.out;rw[<- y.out]at this;exact kH this,kH (KX.refl _ _ _)⟩
  | true=>
   obtain⟨iE,bP,au⟩:=Dq I iX iJ dR y ar;go_wp2_with fail
   go_region_held3 (fun w'=>w'.cell? ⟨E.rp,5,none⟩=some (.map (some E.vi))/\w'.cell? ⟨w.heap.size,0,none⟩=some (.pointer (some ⟨E.rp,0,none⟩))) (exact bP.out _ (by assumption)) ((go_at_call 145;refine iE.out.mono ?_;rintro e5 w5 ⟨v5,rfl,jE,d⟩;obtain⟨b8,w6,a8,lD,b9⟩:=Dp I d au v5))
   have HX:=kH (Dn I iT dR y dK d jE lD);clear b8 b9 lD d jE au a8;go_wp2_with fail
   go_meet
   exact HX.out
 obtain⟨Vx,gJ,ng⟩:=hcut;obtain⟨HV,HD,tJ,HU,rq⟩:=Dm hB F gJ ng I iT iJ kE iX HK dR y dK ar;obtain⟨gi,gb,uy,Ag,bp⟩:=Dl gJ x;obtain⟨⟨q0,lp⟩,⟨n0,n1,n2,n3,n4,ln⟩,⟨c0,c1,c2,c8,lr⟩⟩:=HV.out.cells;clear c5 p0 pR qH c8;obtain⟨L, hL⟩:=ag (aJ G (aI r i (aF (aH s))) 5 nx (ae.node 16 x a e C) ([]::s));obtain⟨l,hl,aq⟩:=TD G (aI r i (aF (aH s))) 5 nx (ae.node 16 x a e C) s;rw[hL]at hl;obtain⟨X, hX⟩:=ag (aj G i C 0 2 s L.1)
 have aa:qM r L.1:=by
  have:=dY.mR G r i (aF (aH s)) 5 (ae.node 16 x a e C) ([]::s);rw[y.out,hL]at this;exact this
 have Z:L.1.next=r.next+1:=by
  have:=nX G r i (aF (aH s)) 5 (ae.node 16 x a e C) ([]::s);rw[y.out,hL]at this;rw[this,y.out]
 have av:qM r X.1:=dY.trans aa (by rw[<- hX];exact yF G C i 0 2 _ L.1)
 have af:(aH (l::X.2)).length+r.next<=(aH s).length+X.1.next:=by
  have h1:=iI G C i 0 2 s L.1;rw[hX,Z]at h1;rw[pY];omega
 have n:X.1.next<=r.next+1+aC ((ae.node 16 x a e C).kids.take 2):=by
  have h1:=qc G C i 0 2 s L.1;rw[hX,Z]at h1;exact h1
 have ax:X.2.length=s.length:=by rw[<- hX];exact jL G C i 0 2 s L.1
 have oV:=kH aa;have fw:=kH Z;have HL:=kH hL;have ZF:=kH hl;have lX:=kH aq;have HX:=kH hX;have Me:=kH av;have aE:=kH af;have Xc:=kH n;have BG:=kH ax;have ao:=fun q=>(HV.out.drewN q).GL (HV.out.drewN q).S F
 have ry:=kH ao;clear ao aa Z hX av af n hl aq hL ax;go_wp2_with fail
 go_quiet (fail)
 go_wp2_with fail
 refine(ry.out _).mono ?_;rintro e8 w8 ⟨b,m,rfl,hm,hb,gZ,uK,wO,v,h8⟩;have a6:w.heap.size<=m:=aca HV.out.K.size hm;have U:=h8.mR (ae.node 16 x a e C) ⟨rfl,rfl,rfl,rfl,rfl⟩ eT.out HD.out tJ.out 5 nx HU.out [] s m ms uK wO (.inr a6);rw[HL.out]at U;have Kj:=kH U;have b3:Hid (∀{M2:Nat->Prop}{w':World}{r':RS}{V':RV},KX E M2 w8 w'->aQ E G r' V' w'->(∀g,M2 g->g=E.vi\/g=m)->VW E G B ⟨C,16,x,a,e,A,nk,c,w.heap.size+1,w.heap.size⟩ w (fun g=>g=E.vi\/ms.head? =some g) r' V' s p ms w'):=kH (fun hk hr b5=>(HV.out.drewN _).outer F v hk hr (fun g O=>by rcases b5 g O with e|e;exact .inl e;exact .inr (by rw[e];exact hm)) (.inl rfl));have Cw:=kH hb;have H8:=kH h8;have HM:Hid (w.heap.size<=m):=kH a6;obtain⟨⟨q8,Bj⟩,⟨u0,u1,u2,u3,u4,lu⟩,⟨-,-,-,-,bj⟩⟩:=h8.cells;have b0:=hb.cell 0;have b1:=hb.cell 1;have ba:=hb.lt;clear U hm hb gZ uK v h8 a6;go_wp2_with fail
 refine Kj.out.mono ?_;rintro e9 w9 ⟨rfl,k9,V9,h9⟩;rw[ZF.out]at h9;have nZ:=H8.out.xQ k9 Cw.out;have b7:=h9.S.head;obtain⟨Q3,al,NT,-⟩:=b7;have Ll:=b3.out k9 h9.R (fun g O=>.inr O);obtain⟨⟨q9,bh⟩,⟨-,-,-,-,n9,bc⟩,-⟩:=Ll.cells;have D:=Ll.kids jo.out i 0 2 2 rfl eT.out (by show 0+2<=nk;have:=kP.out.2.1;have:=eT.out;omega) z.out kP.out.2.2 (dR.out.kids (t:=(ae.node 16 x a e C)) oV.out (by have:=fw.out;omega) (by rw[fw.out];exact Nat.le_add_right _ _)) F (fun g O=>.inl O);rw[HX.out]at D;have HC:=kH D;have b2:=kH Ll;have F9:=kH nZ;have b4:=kH Q3;have Su:Hid (E.base<=b/\E.base<=m):=kH ⟨al,NT⟩;clear D h9 nZ Q3 al NT Ll k9 q8 Bj u0 u1 u2 u3 u4 lu bj b0 b1 ba;go_wp2_with fail
 refine HC.out.mono ?_;rintro bn eP ⟨rfl,ab,zq,j⟩;have Bu:=b2.out.xQ ab F9.out
 have DT:¬(m=E.vi\/ms.head? =some m):=fun h=>by
  rcases h with h|h
  ·exact(wO.apart m (by simp)).2.2.2 h
  refine(List.nodup_cons.1 wO.nodup).1 ?_
  cases ms with
  | nil=>cases h
  | cons a t=>simp at h;rw[h];simp
 have Iq:=ab.abI b4.out DT;obtain⟨Y, hY⟩:=ag (aj G i C 2 1 (l::X.2) X.1)
 have jb:(Y.1,Y.2.tail)=Q:=by
  rw[<- HQ.out,y.out,HL.out,HX.out,ZF.out,<- hY];rfl
 have xZ:bY eP E.base (some ⟨b,0,none⟩) (l::X.2) (m::ms):=⟨b,m,p,ms,rfl,rfl,Su.out.1,Su.out.2,Bu,Iq,j.S⟩
 have W:=j.other xZ;obtain⟨⟨bl,bd⟩,⟨-,-,-,-,bk,bb⟩,-⟩:=W.cells
 have D:=W.kids jo.out i 2 1 3 rfl eT.out (by show 2+1<=nk;have:=kP.out.2.1;have:=eT.out;omega) z.out (by have:=kP.out.2.2;rw[kP.out.1]at this;exact this) (dR.out.kids (t:=(ae.node 16 x a e C)) Me.out aE.out Xc.out) wO (fun g O=>by
  rcases O with O|O
  ·exact .inl (.inl O)
  exact .inr (by have:=HM.out;simp at O;omega))
 rw[hY]at D;have Jv:=kH D;have a1:=kH Bu;have az:=kH W;have eQ:=kH jb;clear D j W Bu Iq xZ ab DT hY jb q9 bh n9 bc HC;go_wp2_with fail
 refine Jv.out.mono ?_;rintro bo TA ⟨rfl,ay,bm,f⟩
 have HE:Hid (∃V',aQ E G Q.1 V' TA/\bY TA E.base p Q.2 ms/\KX E (fun g=>g=E.vi\/ms.head? =some g) w TA):=kH (by
  rw[<- eQ.out]
  exact(f.other (bY.tail f.S (az.out.xQ ay a1.out))).end_)
 clear ay f Jv bl bk;go_wp2_with fail
 try simp only[Exit.inBlock,Exit.then]
 refine bodyPost_ret (results_none rfl _ _ _) rfl ?_;exact⟨rfl,HE.out⟩
theorem Xn(E:RC)(G:bf)(B:Nat)(hB:B<=E.base)(x:ByteArray)(a e:Int)(C:List ae)(bh:∀k∈C,fO E G B k):fO E G B (.node 12 x a e C):=by
 intro i s p ms r V w A c h hs D hk a8 Z hv b7;obtain⟨nk, j⟩:=ag C.length
 have bs:s.isEmpty=false/\C.length=2/\lG s.isEmpty C=true:=by
  rw[pq,if_neg (by decide),if_neg (by decide),if_pos (by decide)]at hv;simp only[acb,Bool.not_eq_true',Bool.or_eq_true,decide_eq_true_eq]at hv;exact⟨hv.1.1.1,hv.1.1.2.resolve_left (by decide),hv.2⟩
 have hq:aK G i (ae.node 12 x a e C) s r=((aj G i C 0 2 s (aJ G (aI r i (aF (aH s))) 4 r.next (ae.node 12 x a e C) ([]::s)).1).1,lh (aj G i C 0 2 s (aJ G (aI r i (aF (aH s))) 4 r.next (ae.node 12 x a e C) ([]::s)).1).2 ((aJ G (aI r i (aF (aH s))) 4 r.next (ae.node 12 x a e C) ([]::s)).2.headD [])):=by
  rw[dz,if_neg (by decide),if_neg (by decide),if_neg (by decide),if_neg (by decide),if_neg (by decide),if_pos rfl]
 rw[hq];obtain⟨Q, hQ⟩:=ag (((aj G i C 0 2 s (aJ G (aI r i (aF (aH s))) 4 r.next (ae.node 12 x a e C) ([]::s)).1).1,lh (aj G i C 0 2 s (aJ G (aI r i (aF (aH s))) 4 r.next (ae.node 12 x a e C) ([]::s)).1).2 ((aJ G (aI r i (aF (aH s))) 4 r.next (ae.node 12 x a e C) ([]::s)).2.headD [])));rw[hQ];have HQ:=kH hQ;clear hq hQ;rw[show aO (ae.node 12 x a e C) A c= .agg #[.int .i64 12,.string x,.int .i64 a,.int .i64 e,.slice A nk c] by rw[<- j];rfl];obtain⟨nx,bN,bm,yf,qK,cu,cv,c9⟩:=Dt h b7 j;have H:=kH h;have HS:=kH hs;have HK:Hid (aD w B A 0 C):=kH hk;have dR:=kH b7;have eT:=kH j;have kP:=kH bs;have jo:=kH bh;have ar:Hid (nk<=c):=kH (by rw[<- j];exact a8);have dK:=kH Z;clear h hs hk b7 j bs bh hv a8 Z;go_in
 go_upto_if 32 with fail
 generalize bb:World.alloc (World.alloc (World.setCell w _ _) _) _=W3
 obtain⟨T,iT,iJ,kE,iX,c5,p0,pR,qH⟩:=Dr H HS bb;clear bb qK c9;go_cut [] (fun wx=> ∃Vx,Hid (aQ E G (aI r i (aF (aH s))) Vx wx)/\Hid (KX E (fun g=>g=E.vi) W3 wx))
 case first=>
  cases i with
  | false=>
   go_wp2_with fail
   go_meet
   exact⟨V,by have:=T.out;rw[<- bN.out]at this;exact kH this,kH (KX.refl _ _ _)⟩
  | true=>
   obtain⟨iE,bP,d⟩:=Dq T iX iJ dR bN bm;go_wp2_with fail
   go_region_held3 (fun w'=>w'.cell? ⟨E.rp,5,none⟩=some (.map (some E.vi))/\w'.cell? ⟨w.heap.size,0,none⟩=some (.pointer (some ⟨E.rp,0,none⟩))) (exact bP.out _ (by assumption)) ((go_at_call 145;refine iE.out.mono ?_;rintro e5 w5 ⟨v5,rfl,jE,aE⟩;obtain⟨cf,w6,f,lD,cg⟩:=Dp T aE d v5))
   have HX:=kH (Dn T iT dR bN dK aE jE lD);clear cf cg lD aE jE d f;go_wp2_with fail
   go_meet
   exact HX.out
 obtain⟨Vx,gJ,ng⟩:=hcut;obtain⟨HV,HD,tJ,HU,rq⟩:=Dm hB D gJ ng T iT iJ kE iX HK dR bN dK bm;obtain⟨gi,gb,uy,Ag,ct⟩:=Dl gJ x;obtain⟨⟨q0,lp⟩,⟨n0,n1,n2,n3,n4,ln⟩,⟨c0,c1,c2,c8,lr⟩⟩:=HV.out.cells;clear c5 p0 pR qH c8;obtain⟨L, hL⟩:=ag (aJ G (aI r i (aF (aH s))) 4 nx (ae.node 12 x a e C) ([]::s));obtain⟨l,hl,bl⟩:=TD G (aI r i (aF (aH s))) 4 nx (ae.node 12 x a e C) s;rw[hL]at hl;obtain⟨X, hX⟩:=ag (aj G i C 0 2 s L.1)
 have b8:qM r L.1:=by
  have:=dY.mR G r i (aF (aH s)) 4 (ae.node 12 x a e C) ([]::s);rw[bN.out,hL]at this;exact this
 have aq:L.1.next=r.next+1:=by
  have:=nX G r i (aF (aH s)) 4 (ae.node 12 x a e C) ([]::s);rw[bN.out,hL]at this;rw[this,bN.out]
 have br:qM r X.1:=dY.trans b8 (by rw[<- hX];exact yF G C i 0 2 _ L.1)
 have bc:(aH (l::X.2)).length+r.next<=(aH s).length+X.1.next:=by
  have J:=iI G C i 0 2 s L.1;rw[hX,aq]at J;rw[pY];omega
 have al:X.1.next<=r.next+1+aC ((ae.node 12 x a e C).kids.take 2):=by
  have J:=qc G C i 0 2 s L.1;rw[hX,aq]at J;exact J
 have bt:X.2.length=s.length:=by rw[<- hX];exact jL G C i 0 2 s L.1
 have oV:=kH b8;have fw:=kH aq;have HL:=kH hL;have ZF:=kH hl;have lX:=kH bl;have HX:=kH hX;have Me:=kH br;have cq:=kH bc;have Xc:=kH al;have BG:=kH bt;have bj:=fun q=>(HV.out.drewN q).GL (HV.out.drewN q).S D
 have ry:=kH bj;clear bj b8 aq hX br bc al hl bl hL bt;go_wp2_with fail
 go_quiet (fail)
 go_wp2_with fail
 refine(ry.out _).mono ?_;rintro e8 w8 ⟨b,m,rfl,hm,hb,gZ,uK,wO,a7,h8⟩;have b5:w.heap.size<=m:=aca HV.out.K.size hm;have a1:=h8.mR (ae.node 12 x a e C) ⟨rfl,rfl,rfl,rfl,rfl⟩ eT.out HD.out tJ.out 4 nx HU.out [] s m ms uK wO (.inr b5);rw[HL.out]at a1;have Kj:=kH a1;have bZ:Hid (∀{M2:Nat->Prop}{w':World}{r':RS}{V':RV},KX E M2 w8 w'->aQ E G r' V' w'->(∀g,M2 g->g=E.vi\/g=m)->VW E G B ⟨C,12,x,a,e,A,nk,c,w.heap.size+1,w.heap.size⟩ w (fun g=>g=E.vi\/ms.head? =some g) r' V' s p ms w'):=kH (fun hk hr c7=>(HV.out.drewN _).outer D a7 hk hr (fun g hg=>by rcases c7 g hg with e|e;exact .inl e;exact .inr (by rw[e];exact hm)) (.inl rfl));have Cw:=kH hb;have H8:=kH h8;have HM:Hid (w.heap.size<=m):=kH b5;obtain⟨⟨q8,Bj⟩,⟨u0,u1,u2,u3,u4,lu⟩,⟨-,-,-,-,cp⟩⟩:=h8.cells;have b0:=hb.cell 0;have b1:=hb.cell 1;have cl:=hb.lt;clear a1 hm hb gZ uK a7 h8 b5;go_wp2_with fail
 refine Kj.out.mono ?_;rintro e9 w9 ⟨rfl,k9,V9,h9⟩;rw[ZF.out]at h9;have nZ:=H8.out.xQ k9 Cw.out;have cb:=h9.S.head;obtain⟨Q3,bd,NT,-⟩:=cb;have Ll:=bZ.out k9 h9.R (fun g hg=>.inr hg);obtain⟨⟨q9,cn⟩,⟨-,-,-,-,n9,cm⟩,-⟩:=Ll.cells;have I:=Ll.kids jo.out i 0 2 2 rfl eT.out (by show 0+2<=nk;have:=kP.out.2.1;have:=eT.out;omega) ar.out kP.out.2.2 (dR.out.kids (t:=(ae.node 12 x a e C)) oV.out (by have:=fw.out;omega) (by rw[fw.out];exact Nat.le_add_right _ _)) D (fun g hg=>.inl hg);rw[HX.out]at I;have HC:=kH I;have bX:=kH Ll;have F9:=kH nZ;have c6:=kH Q3;have Su:Hid (E.base<=b/\E.base<=m):=kH ⟨bd,NT⟩;clear I h9 nZ Q3 bd NT Ll k9 q8 Bj u0 u1 u2 u3 u4 lu cp b0 b1 cl;go_wp2_with fail
 refine HC.out.mono ?_;rintro cr U ⟨rfl,b9,zq,ao⟩;have Bu:=bX.out.xQ b9 F9.out
 have DT:¬(m=E.vi\/ms.head? =some m):=fun h=>by
  rcases h with h|h
  ·exact(wO.apart m (by simp)).2.2.2 h
  refine(List.nodup_cons.1 wO.nodup).1 ?_
  cases ms with
  | nil=>cases h
  | cons a t=>simp at h;rw[h];simp
 have Iq:=b9.abI c6.out DT
 obtain⟨l0,s0,W⟩:∃l0 s0,X.2=l0::s0:=by
  have J:=BG.out;have h2:=kP.out.1
  cases hx:X.2 with
  | nil=>
   rw[hx]at J
   cases s with
   | nil=>cases h2
   | cons a t=>cases J
  | cons a t=>exact⟨a,t,rfl⟩
 have jb:(X.1,(l.foldl (fun a y=>dZ a y.1 y.2) l0)::s0)=Q:=by
  rw[<- HQ.out,bN.out,HL.out,HX.out,ZF.out,W];rfl
 obtain⟨b0,F,p0,bw,cc,b6,b2,b3,O7,Q4,VJ⟩:∃b' m' p' bu,p=some ⟨b',0,none⟩/\ms=m'::bu/\E.base<=b'/\E.base<=m'/\ah U b' 95 #[.pointer p',.map (some m')]/\aY jS U m' (jM l0)/\bY U E.base p' s0 bu:=by
  have:=ao.S;rw[W]at this;exact this
 subst cc;subst b6;rw[W]at ao;obtain⟨bx,cd,bk,CW,an⟩:=Be (P:=Tryz.prog) (t:=70) (kt:=9) (et:=3) Tryz.underlying70 Iq;have d1:=Bu.cell 1;have ld:=Bu.lt;have ad:F≠m:=fun e=>DT (.inr (by rw[e];rfl))
 have a6:b0≠F:=fun e=>Q4.rX O7 e.symm
 obtain⟨O, zP⟩:=ag U.heap.size;have af:m<O:=by rw[<- zP];exact Iq.lt
 have u:F<O:=by rw[<- zP];exact Q4.lt
 have Y:b0<O:=by rw[<- zP];exact O7.lt
 have bp:ak (fun g=>g=F\/O<=g) U bx:=(ak.refl _ U).below CW;have bT:Hid (aY jS bx F (jM l0)):=kH (Q4.below CW Q4.lt);have av:=kH bk;have c4:=kH bp;have bB:=kH ao;have bG:=kH O7;have eQ:=kH jb;have Mj:Hid (m<O/\F<O/\b0<O/\F≠m/\b0≠F/\U.heap.size=O):=kH ⟨af,u,Y,ad,a6,zP⟩;have gP:=kH W;clear bk bp ao O7 Q4 VJ jb Bu Iq b9 DT af u Y ad a6 W q9 cn n9 cm HC an CW b2 b3;go_wp2_with fail
 first|rw[zP]at av⊢ |rw[zP]at av
 clear zP;go_loopg [] l.length (fun gk wr=> ∃(left:List (Value×Value)) (lz:lL),gk=left.length/\Hid (ma jS wr m O (jM l) left)/\Hid (ak (fun g=>g=F\/O<=g) U wr)/\Hid (aY jS wr F (jM lz))/\Hid ((left=(jM l).map (fun x=>(jS.fQ x.1,x.2))/\lz=l0)\/(left=[]/\lz=(l.foldl (fun a y=>dZ a y.1 y.2) l0))))
 case atStart=>exact⟨_,l0,by simp[jM],av,c4,bT,kH (.inl ⟨rfl,rfl⟩)⟩
 obtain⟨left,lz,ca,HI,Ox,ax,au⟩:=hrel;have az:=bG.out.since Ox.out (by have:=Mj.out;omega);rcases CK (P:=Tryz.prog) 0 HI.out (by have:=Mj.out;omega) with⟨hl0,hnx⟩| ⟨kv,vv,left',w2,hperm,hmem,hnx,hit2,Bo,hsz2,hent⟩
 ·subst hl0
  have v:lz=(l.foldl (fun a y=>dZ a y.1 y.2) l0):=by
   rcases au.out with⟨J,h2⟩| ⟨-,h2⟩
   ·have h3:=congrArg List.length J
    simp[jM]at h3;rw[h2,List.length_eq_zero_iff.1 h3.symm];rfl
   exact h2
  have d:ak (fun g=>g=F) U wr:=⟨Ox.out.os,Ox.out.tape,Ox.out.output,Ox.out.size,fun g hg hn=>Ox.out.block g hg (fun h=>h.elim hn (fun h=>by have:=Mj.out;omega))⟩
  have HE:Hid (∃V',aQ E G Q.1 V' wr/\bY wr E.base (some ⟨b0,0,none⟩) Q.2 (F::bw)/\KX E (fun g=>g=E.vi\/(F::bw).head? =some g) w wr):=kH (by
   rw[<- eQ.out,<- v]
   exact(bB.out.store D d ax.out (.inl (.inr rfl))).end_)
  clear d v az HI Ox ax au;go_wp2_with fail
  try simp only[Exit.inBlock,Exit.then]
  refine bodyPost_ret (results_none rfl _ _ _) rfl ?_;exact⟨rfl,HE.out⟩
 obtain⟨y,n,hl,Lr,cj,ab,v⟩:∃y n,l=[(y,n)]/\kv= .string y/\vv= .int .i64 n/\left'=[]/\lz=l0:=by
  rcases au.out with⟨J,h2⟩| ⟨J,-⟩
  ·have h3:=lX.out
   cases hl:l with
   | nil=>
    rw[J,hl]at hperm;exact absurd hperm.length_eq (by simp[jM])
   | cons z l'=>
    rw[hl]at h3;have h4:l'=[]:=by simp at h3;exact h3
    subst h4;obtain⟨y,n⟩:=z;rw[J,hl]at hperm;have h5:=List.perm_singleton.1 hperm.symm;simp only[List.cons.injEq,Prod.mk.injEq]at h5;exact⟨y,n,rfl,h5.1.1,h5.1.2,h5.2,h2⟩
  rw[J]at hperm;exact absurd hperm.length_eq (by simp)
 subst Lr cj ab;obtain⟨w3,f,Yt,b4,ck⟩:=iO (P:=Tryz.prog) (KK:=jS) (t:=70) (kt:=9) (et:=3) Tryz.underlying70 Tryz.underlying9 (ax.out.since Bo (by have:=Mj.out;omega)) y (.int .i64 n);change (Instr.mapUpdate 70 (.map (some F)) (Value.string y) (.int .i64 n)).run Tryz.prog w2=_ at f;rw[JG]at Yt;have ay:=az.since Bo (by have:=Mj.out;omega);have e1:=ay.cell 1;have le:=ay.lt;have bn:ak (fun g=>g=F\/O<=g) U w2:=Ox.out.trans (ak.mono Bo (fun g hg=>.inr (by omega)));have bo:ak (fun g=>g=F\/O<=g) U w3:=bn.trans ((ak.refl (fun g=>g=F\/O<=g) w2).grown b4 (fun k hk=>by cases hk;exact .inl (.inl rfl)));have aa:=hit2.grown b4 (by simp;have:=Mj.out;omega) (by simp;have:=Mj.out;omega);have iJ:=kH bo;have ba:=kH Yt;have bI:=kH aa;have aw:=kH hl;have bM:=kH v;have Mf:=kH hperm;clear bn bo Yt aa hl v hperm hmem hit2 Bo hsz2 b4 ck az ay;go_wp2_with fail
 go_roundg (gk - 1)
 case measure=>have h9:left.length=1:=Mf.out.length_eq;omega
 refine⟨[],dZ l0 y n,by have h9:left.length=1:=Mf.out.length_eq;show gk - 1=0;omega,bI,iJ,?_,kH (.inr ⟨rfl,?_⟩)⟩
 ·rw[bM.out]at ba
  exact ba
 rw[aw.out];rfl
theorem ZW(E:RC)(G:bf)(B:Nat)(hB:B<=E.base)(x:ByteArray)(a e:Int)(C:List ae)(a7:∀k∈C,fO E G B k):fO E G B (.node 19 x a e C):=by
 intro i s p ms r V w A c h hs O Y X K hv n;obtain⟨nk, L⟩:=ag C.length
 have af:lG s.isEmpty C=true:=by
  rw[pq,if_neg (by decide),if_neg (by decide),if_neg (by decide)]at hv;exact hv
 have hq:aK G i (ae.node 19 x a e C) s r=aj G i C 0 C.length s (ik G s r (aI r i (aF (aH s))) (ae.node 19 x a e C)):=by
  rw[dz];repeat (rw[if_neg (by decide)])
 rw[hq];obtain⟨Q, hQ⟩:=ag (aj G i C 0 C.length s (ik G s r (aI r i (aF (aH s))) (ae.node 19 x a e C)));rw[hQ];have HQ:=kH hQ;clear hq hQ;rw[show aO (ae.node 19 x a e C) A c= .agg #[.int .i64 19,.string x,.int .i64 a,.int .i64 e,.slice A nk c] by rw[<- L];rfl];obtain⟨nx,d,a8,yf,qK,az,aE,an⟩:=Dt h n L;have H:=kH h;have HS:=kH hs;have HK:Hid (aD w B A 0 C):=kH Y;have dR:=kH n;have eT:=kH L;have kP:=kH af;have jo:=kH a7;have W:Hid (nk<=c):=kH (by rw[<- L];exact X);have dK:=kH K;clear h hs Y n L af a7 hv X K;go_in
 go_upto_if 32 with fail
 generalize a6:World.alloc (World.alloc (World.setCell w _ _) _) _=W3
 obtain⟨F,iT,iJ,kE,iX,c5,p0,pR,qH⟩:=Dr H HS a6;clear a6 qK an;go_cut [] (fun wx=> ∃Vx,Hid (aQ E G (aI r i (aF (aH s))) Vx wx)/\Hid (KX E (fun g=>g=E.vi) W3 wx))
 case first=>
  cases i with
  | false=>
   go_wp2_with fail
   go_meet
   exact⟨V,by have:=F.out;rw[<- d.out]at this;exact kH this,kH (KX.refl _ _ _)⟩
  | true=>
   obtain⟨iE,b,aa⟩:=Dq F iX iJ dR d a8;go_wp2_with fail
   go_region_held3 (fun w'=>w'.cell? ⟨E.rp,5,none⟩=some (.map (some E.vi))/\w'.cell? ⟨w.heap.size,0,none⟩=some (.pointer (some ⟨E.rp,0,none⟩))) (exact b.out _ (by assumption)) ((go_at_call 145;refine iE.out.mono ?_;rintro e5 w5 ⟨v5,rfl,jE,u⟩;obtain⟨m,w6,a1,lD,l⟩:=Dp F u aa v5))
   have HX:=kH (Dn F iT dR d dK u jE lD);clear m l lD u jE aa a1;go_wp2_with fail
   go_meet
   exact HX.out
 obtain⟨Vx,gJ,ng⟩:=hcut;obtain⟨HV,HD,tJ,HU,rq⟩:=Dm hB O gJ ng F iT iJ kE iX HK dR d dK a8;obtain⟨S,gb,uy,Ag,ay⟩:=Dl gJ x;obtain⟨⟨q0,lp⟩,⟨n0,n1,n2,n3,n4,ln⟩,⟨c0,c1,c2,c8,lr⟩⟩:=HV.out.cells;clear c5 p0 pR qH c8;obtain⟨Z, qI⟩:=ag (((aV G.globals x).filter fun j=>decide (jN G j=5)));have ax:=kH qI
 have jb:aj G i C 0 nk s (iw (aI r i (aF (aH s))) nx (ae.node 19 x a e C) Z)=Q:=by
  rw[<- HQ.out,eT.out,<- qI,<- d.out];rfl
 have eQ:=kH jb;have oV:Hid (qM r (iw (aI r i (aF (aH s))) nx (ae.node 19 x a e C) Z)):=kH (by have:=dY.En r i (aF (aH s)) (ae.node 19 x a e C) Z;rw[d.out]at this;exact this);have fw:Hid ((iw (aI r i (aF (aH s))) nx (ae.node 19 x a e C) Z).next=r.next+1):=kH (by cases Z<;>rfl);clear jb;obtain⟨kk, U⟩:=ag (jN G S)
 have ad:∀k,Z=some k->k=S:=fun k Y=>by
  rw[<- qI]at Y;rw[<- uy.out]
  cases hl:bK G.globals x with
  | none=>rw[show aV G.globals x=none from hl]at Y;cases Y
  | some y=>
   rw[show aV G.globals x=some y from hl]at Y;have:=(Option.filter_eq_some_iff.1 Y).1;simp only[acf]at this;rw[<- this];rfl
 have ab:Z.isSome=(gb&&(kk==5)):=by
  rw[<- qI,<- Ag.out,<- U,<- uy.out]
  cases hl:bK G.globals x with
  | none=>rw[show aV G.globals x=none from hl];rfl
  | some y=>
   rw[show aV G.globals x=some y from hl];show(Option.filter (fun j=>decide (jN G j=5)) (some y)).isSome=(true&&(jN G y==5));by_cases hy:jN G y=5
   ·simp[hy]
   simp[hy]
 have fE:∀r' V' w',VW E G B ⟨C,19,x,a,e,A,nk,c,w.heap.size+1,w.heap.size⟩ w (fun g=>g=E.vi\/ms.head? =some g) r' V' s p ms w'->(w'.cell? ⟨w.heap.size,0,none⟩=some (.pointer (some ⟨E.rp,0,none⟩))/\w'.cell? ⟨w.heap.size+1,0,none⟩=some (.int .i64 19)/\w'.cell? ⟨w.heap.size+1,1,none⟩=some (.string x)/\w'.cell? ⟨w.heap.size+1,2,none⟩=some (.int .i64 a)/\w'.cell? ⟨w.heap.size+1,3,none⟩=some (.int .i64 e)/\w'.cell? ⟨w.heap.size+1,4,none⟩=some (.slice A nk c)/\w'.cell? ⟨E.rp,2,none⟩=some (.map (some E.k))/\(Instr.lookup 71 (.map (some E.k)) (.int .i64 S) false).run Tryz.prog w'= .ok (.int .i64 kk) w'):=fun r' V' w' hv=>by
  obtain⟨⟨y0,-⟩,⟨z0,z1,z2,z3,z4,-⟩,⟨-,-,d2,-,-⟩⟩:=hv.cells;exact⟨y0,z0,z1,z2,z3,z4,d2,by have:=uh w' E.k G.kinds hv.R.kn S;rw[show(bK G.kinds S).getD 0=kk from U]at this;exact this⟩
 have b:=kH fE;have f:=fun q=>((HV.out.drewN q).drew).JD (ae.node 19 x a e C) ⟨rfl,rfl,rfl,rfl,rfl⟩ eT.out tJ.out nx HU.out Z S ad
 rw[ab]at f;have NM:=fun q=>(HV.out.drewN q).drew
 have RU:=kH NM;have ao:=fun q=>uh (wc.drewN q) E.k G.kinds (aY.drewN gJ.out.kn q) S
 rw[show(bK G.kinds S).getD 0=kk from U]at ao;clear fE NM qI ad ab U
 cases gb with
 | false=>
  rw[Bool.false_and]at f;have qP:=kH f;clear f;go_wp2_with fail
  go_quiet (fail)
  go_wp2_with fail
  have J:=b.out _ _ _ (RU.out nq);refine bF (fun w'=>(w'.cell? ⟨w.heap.size,0,none⟩=some (.pointer (some ⟨E.rp,0,none⟩))/\w'.cell? ⟨w.heap.size+1,0,none⟩=some (.int .i64 19)/\w'.cell? ⟨w.heap.size+1,1,none⟩=some (.string x)/\w'.cell? ⟨w.heap.size+1,2,none⟩=some (.int .i64 a)/\w'.cell? ⟨w.heap.size+1,3,none⟩=some (.int .i64 e)/\w'.cell? ⟨w.heap.size+1,4,none⟩=some (.slice A nk c)/\w'.cell? ⟨E.rp,2,none⟩=some (.map (some E.k))/\(Instr.lookup 71 (.map (some E.k)) (.int .i64 S) false).run Tryz.prog w'= .ok (.int .i64 kk) w')) [] [true,true,true,true,true,true,true,true,true,true,true,true,true,true,false] (by kernel_rfl) (by kernel_rfl) rfl (by kernel_rfl) ?_;iterate 14((first|(refine dU (by rfl) J ?_)|(refine bC (by rfl) J (by intro w' v;obtain⟨aq,ar,au,av,m,aw,l,uK⟩:=v;go_simp;rfl) ?_));simp only[Act.put,sA,sZ,sC])
  refine dG (by rfl) (by go_simp) ((qP.out _).mono ?_);rintro e8 w8 ⟨rfl,V8,T⟩;refine⟨_,rfl,fun _=>b.out _ _ _ T,?_⟩;simp only[Act.put,sA,sZ,sC];refine fT ?_;obtain⟨⟨q8,Bj⟩,⟨-,-,-,-,n8,I1⟩,-⟩:=T.cells;have D:=T.kids jo.out i 0 nk nk (by omega) eT.out (by show 0+nk<=nk;omega) W.out kP.out (dR.out.kids (t:=(ae.node 19 x a e C)) oV.out (Nat.add_le_add_left oV.out.next _) (rq.out _ fw.out)) O (fun g hg=>.inl hg);rw[eQ.out]at D;have HC:=kH D;clear D T;go_wp2_with fail
  refine HC.out.mono ?_;rintro al z ⟨rfl,-,zq,I⟩;have HE:Hid (∃V',aQ E G Q.1 V' z/\bY z E.base p Q.2 ms/\KX E (fun g=>g=E.vi\/ms.head? =some g) w z):=kH I.end_;clear I HC q8 n8;go_wp2_with fail
  go_end0
  exact⟨rfl,HE.out⟩
 | true=>
  rw[Bool.true_and]at f;have qP:=kH f;clear f;go_wp2_with fail
  go_quiet (fail)
  go_wp2_with fail
  have J:=b.out _ _ _ (RU.out nq);refine bF (fun w'=>(w'.cell? ⟨w.heap.size,0,none⟩=some (.pointer (some ⟨E.rp,0,none⟩))/\w'.cell? ⟨w.heap.size+1,0,none⟩=some (.int .i64 19)/\w'.cell? ⟨w.heap.size+1,1,none⟩=some (.string x)/\w'.cell? ⟨w.heap.size+1,2,none⟩=some (.int .i64 a)/\w'.cell? ⟨w.heap.size+1,3,none⟩=some (.int .i64 e)/\w'.cell? ⟨w.heap.size+1,4,none⟩=some (.slice A nk c)/\w'.cell? ⟨E.rp,2,none⟩=some (.map (some E.k))/\(Instr.lookup 71 (.map (some E.k)) (.int .i64 S) false).run Tryz.prog w'= .ok (.int .i64 kk) w')) [] [true,true,true,true,true,true,true,true,true,true,true,true,true,true,false] (by kernel_rfl) (by kernel_rfl) rfl (by kernel_rfl) ?_;iterate 14((first|(refine dU (by rfl) J ?_)|(refine bC (by rfl) J (by intro w' v;obtain⟨aq,ar,au,av,m,aw,l,uK⟩:=v;go_simp;rfl) ?_));simp only[Act.put,sA,sZ,sC])
  refine dG (by rfl) (by go_simp) ((qP.out _).mono ?_);rintro e8 w8 ⟨rfl,V8,T⟩;refine⟨_,rfl,fun _=>b.out _ _ _ T,?_⟩;simp only[Act.put,sA,sZ,sC];refine fT ?_;obtain⟨⟨q8,Bj⟩,⟨-,-,-,-,n8,I1⟩,-⟩:=T.cells;have D:=T.kids jo.out i 0 nk nk (by omega) eT.out (by show 0+nk<=nk;omega) W.out kP.out (dR.out.kids (t:=(ae.node 19 x a e C)) oV.out (Nat.add_le_add_left oV.out.next _) (rq.out _ fw.out)) O (fun g hg=>.inl hg);rw[eQ.out]at D;have HC:=kH D;clear D T;go_wp2_with fail
  refine HC.out.mono ?_;rintro al z ⟨rfl,-,zq,I⟩;have HE:Hid (∃V',aQ E G Q.1 V' z/\bY z E.base p Q.2 ms/\KX E (fun g=>g=E.vi\/ms.head? =some g) w z):=kH I.end_;clear I HC q8 n8;go_wp2_with fail
  go_end0
  exact⟨rfl,HE.out⟩
theorem UL(E:RC)(G:bf)(B:Nat)(hB:B<=E.base)(x:ByteArray)(a e:Int)(C:List ae)(ad:∀k∈C,fO E G B k):fO E G B (.node 9 x a e C):=by
 intro i s p ms r V w A c h hs J v z T hv a6;obtain⟨nk, U⟩:=ag C.length
 have aq:lG s.isEmpty C=true:=by
  rw[pq,if_neg (by decide),if_neg (by decide),if_neg (by decide)]at hv;exact hv
 have hq:aK G i (ae.node 9 x a e C) s r=aj G i C 0 C.length s (ik G s r (aI r i (aF (aH s))) (ae.node 9 x a e C)):=by
  rw[dz];repeat (rw[if_neg (by decide)])
 rw[hq];obtain⟨Q, hQ⟩:=ag (aj G i C 0 C.length s (ik G s r (aI r i (aF (aH s))) (ae.node 9 x a e C)));rw[hQ];have HQ:=kH hQ;clear hq hQ;rw[show aO (ae.node 9 x a e C) A c= .agg #[.int .i64 9,.string x,.int .i64 a,.int .i64 e,.slice A nk c] by rw[<- U];rfl];obtain⟨nx,bN,af,yf,qK,b1,b2,ar⟩:=Dt h a6 U;have H:=kH h;have HS:=kH hs;have HK:Hid (aD w B A 0 C):=kH v;have l:=kH a6;have Z:=kH U;have kP:=kH aq;have jo:=kH ad;have L:Hid (nk<=c):=kH (by rw[<- U];exact z);have dK:=kH T;clear h hs v a6 U aq ad hv z T;go_in
 go_upto_if 32 with fail
 generalize ab:World.alloc (World.alloc (World.setCell w _ _) _) _=W3
 obtain⟨O,iT,iJ,kE,iX,c5,p0,pR,qH⟩:=Dr H HS ab;clear ab qK ar;go_cut [] (fun wx=> ∃Vx,Hid (aQ E G (aI r i (aF (aH s))) Vx wx)/\Hid (KX E (fun g=>g=E.vi) W3 wx))
 case first=>
  cases i with
  | false=>
   go_wp2_with fail
   go_meet
   exact⟨V,by have:=O.out;rw[<- bN.out]at this;exact kH this,kH (KX.refl _ _ _)⟩
  | true=>
   obtain⟨iE,bP,al⟩:=Dq O iX iJ l bN af;go_wp2_with fail
   go_region_held3 (fun w'=>w'.cell? ⟨E.rp,5,none⟩=some (.map (some E.vi))/\w'.cell? ⟨w.heap.size,0,none⟩=some (.pointer (some ⟨E.rp,0,none⟩))) (exact bP.out _ (by assumption)) ((go_at_call 145;refine iE.out.mono ?_;rintro e5 w5 ⟨v5,rfl,jE,a1⟩;obtain⟨a8,w6,a7,lD,aa⟩:=Dp O a1 al v5))
   have HX:=kH (Dn O iT l bN dK a1 jE lD);clear a8 aa lD a1 jE al a7;go_wp2_with fail
   go_meet
   exact HX.out
 obtain⟨Vx,gJ,ng⟩:=hcut;obtain⟨HV,HD,tJ,HU,rq⟩:=Dm hB J gJ ng O iT iJ kE iX HK l bN dK af;obtain⟨W,gb,uy,Ag,b0⟩:=Dl gJ x;obtain⟨⟨q0,lp⟩,⟨n0,n1,n2,n3,n4,ln⟩,⟨c0,c1,c2,c8,lr⟩⟩:=HV.out.cells;clear c5 p0 pR qH c8;by_cases d:x=(⟨#[105,110,116]⟩:ByteArray)
 ·have I:ek x=true:=by rw[d];rfl
  have f1:x.toList=[105,110,116]:=by rw[d,ByteArray.toList_eq]
  clear d
  have hu:ik G s r (aI r i (aF (aH s))) (ae.node 9 x a e C)=(aI r i (aF (aH s))):=by
   unfold ik;show(if (9:Int)=20 then _ else if (9:Int)=22 then _ else if (9:Int)=27 then _ else if (9:Int)=19 then _ else if (9:Int)=9/\ek x=false then _ else _)=_;rw[if_neg (by decide),if_neg (by decide),if_neg (by decide),if_neg (by decide)];exact if_neg (fun(h:(9:Int)=9/\ek x=false)=>by rw[I]at h;cases h.2)
  have D:=fun q=>(HV.out.drewN q).kids jo.out i 0 nk nk (by omega) Z.out (by show 0+nk<=nk;omega) L.out kP.out (l.out.kids (t:=(ae.node 9 x a e C)) (dY.none_ r i _) (Nat.add_le_add_left (Nat.le_succ _) _) (rq.out _ rfl)) J (fun g hg=>.inl hg)
  have u:aj G i C 0 nk s (aI r i (aF (aH s)))=Q:=by rw[<- HQ.out,hu,Z.out]
  have eQ:=kH u;have zG:=kH D;clear D u hu I;go_wp2_with fail
  go_quiet (fail)
  go_wp2_with fail
  refine(zG.out _).mono ?_;rintro f K ⟨rfl,-,zq,F⟩;have m:Hid (∃V',aQ E G Q.1 V' K/\bY K E.base p Q.2 ms/\KX E (fun g=>g=E.vi\/ms.head? =some g) w K):=kH (by rw[<- eQ.out];exact F.end_);clear F zG;go_wp2_with fail
  go_end0
  exact⟨rfl,m.out⟩
 by_cases h2:x=(⟨#[98,111,111,108]⟩:ByteArray)
 ·have I:ek x=true:=by rw[h2];rfl
  have f1:x.toList=[98,111,111,108]:=by rw[h2,ByteArray.toList_eq]
  clear d h2
  have hu:ik G s r (aI r i (aF (aH s))) (ae.node 9 x a e C)=(aI r i (aF (aH s))):=by
   unfold ik;show(if (9:Int)=20 then _ else if (9:Int)=22 then _ else if (9:Int)=27 then _ else if (9:Int)=19 then _ else if (9:Int)=9/\ek x=false then _ else _)=_;rw[if_neg (by decide),if_neg (by decide),if_neg (by decide),if_neg (by decide)];exact if_neg (fun(h:(9:Int)=9/\ek x=false)=>by rw[I]at h;cases h.2)
  have D:=fun q=>(HV.out.drewN q).kids jo.out i 0 nk nk (by omega) Z.out (by show 0+nk<=nk;omega) L.out kP.out (l.out.kids (t:=(ae.node 9 x a e C)) (dY.none_ r i _) (Nat.add_le_add_left (Nat.le_succ _) _) (rq.out _ rfl)) J (fun g hg=>.inl hg)
  have u:aj G i C 0 nk s (aI r i (aF (aH s)))=Q:=by rw[<- HQ.out,hu,Z.out]
  have eQ:=kH u;have zG:=kH D;clear D u hu I;go_wp2_with fail
  go_quiet (fail)
  go_wp2_with fail
  refine(zG.out _).mono ?_;rintro f K ⟨rfl,-,zq,F⟩;have m:Hid (∃V',aQ E G Q.1 V' K/\bY K E.base p Q.2 ms/\KX E (fun g=>g=E.vi\/ms.head? =some g) w K):=kH (by rw[<- eQ.out];exact F.end_);clear F zG;go_wp2_with fail
  go_end0
  exact⟨rfl,m.out⟩
 have I:ek x=false:=by
  unfold ek;rw[decide_eq_false d,decide_eq_false h2];rfl
 have f1:¬x.toList=[105,110,116]:=fun h=>d (rJ (by rw[<- ByteArray.toList_eq,h]))
 have f2:¬x.toList=[98,111,111,108]:=fun h=>h2 (rJ (by rw[<- ByteArray.toList_eq,h]))
 have g1:(x.toList==[105,110,116])=false:=by rw[beq_eq_false_iff_ne];exact f1
 have g2:(x.toList==[98,111,111,108])=false:=by rw[beq_eq_false_iff_ne];exact f2
 clear d h2;obtain⟨n, qI⟩:=ag (((aV G.globals x).filter fun j=>decide (jN G j=3)));have aE:=kH qI
 have u:aj G i C 0 nk s (iw (aI r i (aF (aH s))) nx (ae.node 9 x a e C) n)=Q:=by
  rw[<- HQ.out,Z.out,<- qI,<- bN.out]
  have:ik G s r (aI r i (aF (aH s))) (ae.node 9 x a e C)=iw (aI r i (aF (aH s))) r.next (ae.node 9 x a e C) ((aV G.globals x).filter fun j=>decide (jN G j=3)):=by
   unfold ik;show(if (9:Int)=20 then _ else if (9:Int)=22 then _ else if (9:Int)=27 then _ else if (9:Int)=19 then _ else if (9:Int)=9/\ek x=false then _ else _)=_;rw[if_neg (by decide),if_neg (by decide),if_neg (by decide),if_neg (by decide)];exact if_pos ⟨rfl,I⟩
  rw[this]
 have eQ:=kH u;have oV:Hid (qM r (iw (aI r i (aF (aH s))) nx (ae.node 9 x a e C) n)):=kH (by have:=dY.En r i (aF (aH s)) (ae.node 9 x a e C) n;rw[bN.out]at this;exact this);have fw:Hid ((iw (aI r i (aF (aH s))) nx (ae.node 9 x a e C) n).next=r.next+1):=kH (by cases n<;>rfl);clear u I;obtain⟨kk, Y⟩:=ag (jN G W)
 have ao:∀k,n=some k->k=W:=fun k v=>by
  rw[<- qI]at v;rw[<- uy.out]
  cases hl:bK G.globals x with
  | none=>rw[show aV G.globals x=none from hl]at v;cases v
  | some y=>
   rw[show aV G.globals x=some y from hl]at v;have:=(Option.filter_eq_some_iff.1 v).1;simp only[acf]at this;rw[<- this];rfl
 have an:n.isSome=(gb&&(kk==3)):=by
  rw[<- qI,<- Ag.out,<- Y,<- uy.out]
  cases hl:bK G.globals x with
  | none=>rw[show aV G.globals x=none from hl];rfl
  | some y=>
   rw[show aV G.globals x=some y from hl];show(Option.filter (fun j=>decide (jN G j=3)) (some y)).isSome=(true&&(jN G y==3));by_cases hy:jN G y=3
   ·simp[hy]
   simp[hy]
 have fE:∀r' V' w',VW E G B ⟨C,9,x,a,e,A,nk,c,w.heap.size+1,w.heap.size⟩ w (fun g=>g=E.vi\/ms.head? =some g) r' V' s p ms w'->(w'.cell? ⟨w.heap.size,0,none⟩=some (.pointer (some ⟨E.rp,0,none⟩))/\w'.cell? ⟨w.heap.size+1,0,none⟩=some (.int .i64 9)/\w'.cell? ⟨w.heap.size+1,1,none⟩=some (.string x)/\w'.cell? ⟨w.heap.size+1,2,none⟩=some (.int .i64 a)/\w'.cell? ⟨w.heap.size+1,3,none⟩=some (.int .i64 e)/\w'.cell? ⟨w.heap.size+1,4,none⟩=some (.slice A nk c)/\w'.cell? ⟨E.rp,2,none⟩=some (.map (some E.k))/\(Instr.lookup 71 (.map (some E.k)) (.int .i64 W) false).run Tryz.prog w'= .ok (.int .i64 kk) w'):=fun r' V' w' hv=>by
  obtain⟨⟨y0,-⟩,⟨z0,z1,z2,z3,z4,-⟩,⟨-,-,d2,-,-⟩⟩:=hv.cells;exact⟨y0,z0,z1,z2,z3,z4,d2,by have:=uh w' E.k G.kinds hv.R.kn W;rw[show(bK G.kinds W).getD 0=kk from Y]at this;exact this⟩
 have bP:=kH fE;have mW:=fun q=>((HV.out.drewN q).drew).JD (ae.node 9 x a e C) ⟨rfl,rfl,rfl,rfl,rfl⟩ Z.out tJ.out nx HU.out n W ao
 rw[an]at mW;have NM:=fun q=>(HV.out.drewN q).drew
 have RU:=kH NM;have au:=fun q=>uh (wc.drewN q) E.k G.kinds (aY.drewN gJ.out.kn q) W
 rw[show(bK G.kinds W).getD 0=kk from Y]at au;clear fE NM qI ao an Y
 cases gb with
 | false=>
  rw[Bool.false_and]at mW;have qP:=kH mW;clear mW;go_wp2_with fail
  go_quiet (fail)
  go_wp2_with fail
  have S:=bP.out _ _ _ (RU.out nq);refine bF (fun w'=>(w'.cell? ⟨w.heap.size,0,none⟩=some (.pointer (some ⟨E.rp,0,none⟩))/\w'.cell? ⟨w.heap.size+1,0,none⟩=some (.int .i64 9)/\w'.cell? ⟨w.heap.size+1,1,none⟩=some (.string x)/\w'.cell? ⟨w.heap.size+1,2,none⟩=some (.int .i64 a)/\w'.cell? ⟨w.heap.size+1,3,none⟩=some (.int .i64 e)/\w'.cell? ⟨w.heap.size+1,4,none⟩=some (.slice A nk c)/\w'.cell? ⟨E.rp,2,none⟩=some (.map (some E.k))/\(Instr.lookup 71 (.map (some E.k)) (.int .i64 W) false).run Tryz.prog w'= .ok (.int .i64 kk) w')) [] [true,true,true,true,true,true,true,true,true,true,true,true,true,true,false] (by kernel_rfl) (by kernel_rfl) rfl (by kernel_rfl) ?_;iterate 14((first|(refine dU (by rfl) S ?_)|(refine bC (by rfl) S (by intro w' b;obtain⟨av,aw,ax,ay,a8,az,aa,uK⟩:=b;go_simp;rfl) ?_));simp only[Act.put,sA,sZ,sC])
  refine dG (by rfl) (by go_simp) ((qP.out _).mono ?_);rintro e8 w8 ⟨rfl,V8,X⟩;refine⟨_,rfl,fun _=>bP.out _ _ _ X,?_⟩;simp only[Act.put,sA,sZ,sC];refine fT ?_;obtain⟨⟨q8,Bj⟩,⟨-,-,-,-,n8,I1⟩,-⟩:=X.cells;have D:=X.kids jo.out i 0 nk nk (by omega) Z.out (by show 0+nk<=nk;omega) L.out kP.out (l.out.kids (t:=(ae.node 9 x a e C)) oV.out (Nat.add_le_add_left oV.out.next _) (rq.out _ fw.out)) J (fun g hg=>.inl hg);rw[eQ.out]at D;have HC:=kH D;clear D X;go_wp2_with fail
  refine HC.out.mono ?_;rintro f K ⟨rfl,-,zq,F⟩;have m:Hid (∃V',aQ E G Q.1 V' K/\bY K E.base p Q.2 ms/\KX E (fun g=>g=E.vi\/ms.head? =some g) w K):=kH F.end_;clear F HC q8 n8;go_wp2_with fail
  go_end0
  exact⟨rfl,m.out⟩
 | true=>
  rw[Bool.true_and]at mW;have qP:=kH mW;clear mW;go_wp2_with fail
  go_quiet (fail)
  go_wp2_with fail
  have S:=bP.out _ _ _ (RU.out nq);refine bF (fun w'=>(w'.cell? ⟨w.heap.size,0,none⟩=some (.pointer (some ⟨E.rp,0,none⟩))/\w'.cell? ⟨w.heap.size+1,0,none⟩=some (.int .i64 9)/\w'.cell? ⟨w.heap.size+1,1,none⟩=some (.string x)/\w'.cell? ⟨w.heap.size+1,2,none⟩=some (.int .i64 a)/\w'.cell? ⟨w.heap.size+1,3,none⟩=some (.int .i64 e)/\w'.cell? ⟨w.heap.size+1,4,none⟩=some (.slice A nk c)/\w'.cell? ⟨E.rp,2,none⟩=some (.map (some E.k))/\(Instr.lookup 71 (.map (some E.k)) (.int .i64 W) false).run Tryz.prog w'= .ok (.int .i64 kk) w')) [] [true,true,true,true,true,true,true,true,true,true,true,true,true,true,false] (by kernel_rfl) (by kernel_rfl) rfl (by kernel_rfl) ?_;iterate 14((first|(refine dU (by rfl) S ?_)|(refine bC (by rfl) S (by intro w' b;obtain⟨av,aw,ax,ay,a8,az,aa,uK⟩:=b;go_simp;rfl) ?_));simp only[Act.put,sA,sZ,sC])
  refine dG (by rfl) (by go_simp) ((qP.out _).mono ?_);rintro e8 w8 ⟨rfl,V8,X⟩;refine⟨_,rfl,fun _=>bP.out _ _ _ X,?_⟩;simp only[Act.put,sA,sZ,sC];refine fT ?_;obtain⟨⟨q8,Bj⟩,⟨-,-,-,-,n8,I1⟩,-⟩:=X.cells;have D:=X.kids jo.out i 0 nk nk (by omega) Z.out (by show 0+nk<=nk;omega) L.out kP.out (l.out.kids (t:=(ae.node 9 x a e C)) oV.out (Nat.add_le_add_left oV.out.next _) (rq.out _ fw.out)) J (fun g hg=>.inl hg);rw[eQ.out]at D;have HC:=kH D;clear D X;go_wp2_with fail
  refine HC.out.mono ?_;rintro f K ⟨rfl,-,zq,F⟩;have m:Hid (∃V',aQ E G Q.1 V' K/\bY K E.base p Q.2 ms/\KX E (fun g=>g=E.vi\/ms.head? =some g) w K):=kH F.end_;clear F HC q8 n8;go_wp2_with fail
  go_end0
  exact⟨rfl,m.out⟩
end Go.Proofs.YtoepemlnlpamlaaGreat
namespace Go.Proofs.YtoepemlnlpamlaaGreat
theorem LY:∀{ts:List ae}{c:ae},c∈ts->aB c<=aC ts
 | [],c,h=>by cases h
 | t::ts,c,h=>by
  rw[aC];rcases List.mem_cons.1 h with rfl|h
  ·omega
  have:=LY h;omega
theorem TB(E:RC)(G:bf)(B:Nat)(C:B<=E.base):∀(n:Nat) (t:ae),aB t<=n->fO E G B t
 | 0,t,h=>by
  have:=jk t;omega
 | n+1,.node k x a e kids,h=>by
  have A:∀c∈kids,fO E G B c:=fun c X=>TB E G B C n c (by
   have:=LY X;rw[aB]at h
   omega)
  by_cases O:k=3
  ·subst O;exact Pn E G B C x a e kids A
  by_cases R:k=4
  ·subst R;exact SC E G B C x a e kids A
  by_cases S:k=5
  ·subst S;exact UN E G B C x a e kids A
  by_cases T:k=7
  ·subst T;exact SA E G B C x a e kids A
  by_cases U:k=8
  ·subst U;exact Mm E G B C x a e kids A
  by_cases D:k=11
  ·subst D;exact SE E G B C x a e kids A
  by_cases F:k=12
  ·subst F;exact Xn E G B C x a e kids A
  by_cases H:k=16
  ·subst H;exact Xo E G B C x a e kids A
  by_cases J:k=20
  ·subst J;exact UO E G B C x a e kids A
  by_cases K:k=22
  ·subst K;exact Po E G B C x a e kids A
  by_cases L:k=27
  ·subst L;exact UR E G B C x a e kids A
  by_cases I:k=19
  ·subst I;exact ZW E G B C x a e kids A
  by_cases W:k=9
  ·subst W;exact UL E G B C x a e kids A
  exact SB E G B C k x a e kids A O R S T U D F H J K L I W
theorem Xp(E:RC)(G:bf)(B:Nat)(A:B<=E.base)(t:ae):fO E G B t:=TB E G B A (aB t) t (ab9 _)
open Go.RowKit
theorem GK(x:Int)(w:World):Calls Tryz.prog 151 #[.int .i64 x] w fun e w'=>e= .returned (.bool false)/\w'=w:=by
 go_in
 go_wp2_with fail
 go_ret
 exact⟨rfl,rfl⟩
def BD(a b:Int):Int:=if a<b then -1 else if b<a then 1 else 0
theorem Tf(a b:Int)(w:World):Calls Tryz.prog 82 #[.int .i64 a,.int .i64 b] w fun e w'=>e= .returned (.int .i64 (BD a b))/\w'=w:=by
 unfold BD;by_cases A:a<b
 ·rw[if_pos A]
  go_in
  go_wp2_with (go_at_call 151;refine(GK _ _).mono ?_;rintro e D ⟨rfl,rfl⟩)
  go_ret
  exact⟨rfl,rfl⟩
 rw[if_neg A];by_cases C:b<a
 ·rw[if_pos C]
  go_in
  go_wp2_with (go_at_call 151;refine(GK _ _).mono ?_;rintro e D ⟨rfl,rfl⟩)
  go_ret
  exact⟨rfl,rfl⟩
 rw[if_neg C];go_in
 go_wp2_with (go_at_call 151;refine(GK _ _).mono ?_;rintro e D ⟨rfl,rfl⟩)
 go_ret
 exact⟨rfl,rfl⟩
theorem Ea(A H I J C O R S:Int)(L U:ByteArray)(K T:Value)(w:World):
 Calls Tryz.prog 81 #[.agg #[.int .i64 A,.int .i64 H,.int .i64 I,.int .i64 J,.string L,K],.agg #[.int .i64 C,.int .i64 O,.int .i64 R,.int .i64 S,.string U,T]] w fun e w'=>e= .returned (.int .i64 (BD A C))/\Below w.heap.size w w':=by
 have D:=fun w=>Tf A C w
 obtain⟨q, F⟩:=ag (BD A C);rw[F]at D⊢;clear F;go_in
 go_wp2_with (go_at_call 82;refine(D _).mono ?_;rintro e W ⟨rfl,rfl⟩)
 go_ret
 exact⟨rfl,by(repeat first|exact .refl _ _|assumption|refine .trans ?_ (.mono (by assumption) ?_)|refine .alloc ?_ ?_ _|refine .setCell ?_ ?_ _|refine .drew ?_|refine aL ?_ _|omega|(simp<;>omega))⟩
theorem Bg{w:World}{A:Option Addr}{l:List (Int×Dg)}(h:aS 6 gW w w.heap.size A l){i j:Nat}{p q:Int×Dg}(R:l[i]? =some p)(S:l[j]? =some q):
 ∃b C,A=some ⟨b,C,none⟩/\b<w.heap.size/\∀w',Below w.heap.size w w' ->
  w'.cell? ⟨b,C+i*6,none⟩=some (.int .i64 p.1)/\w'.cell? ⟨b,C+i*6+1,none⟩=some (.int .i64 p.2.code)/\w'.cell? ⟨b,C+i*6+2,none⟩=some (.int .i64 p.2.at_)/\w'.cell? ⟨b,C+i*6+3,none⟩=some (.int .i64 p.2.end_)/\w'.cell? ⟨b,C+i*6+4,none⟩=some (.string p.2.text)/\w'.cell? ⟨b,C+i*6+5,none⟩=some (.slice none 0 0) /\
  w'.cell? ⟨b,C+j*6,none⟩=some (.int .i64 q.1)/\w'.cell? ⟨b,C+j*6+1,none⟩=some (.int .i64 q.2.code)/\w'.cell? ⟨b,C+j*6+2,none⟩=some (.int .i64 q.2.at_)/\w'.cell? ⟨b,C+j*6+3,none⟩=some (.int .i64 q.2.end_)/\w'.cell? ⟨b,C+j*6+4,none⟩=some (.string q.2.text)/\w'.cell? ⟨b,C+j*6+5,none⟩=some (.slice none 0 0):=by
 obtain⟨b,C,K,J,H⟩:=h i p R;obtain⟨T,L,F,-,I⟩:=h j q S;rw[K]at F;simp only[acf,Addr.mk.injEq,and_true]at F;obtain⟨rfl,rfl⟩:=F;refine⟨b,C,K,J,fun w' O=>?_⟩;have D:∀(o:Nat) (v:Value),w.cell? ⟨b,o,none⟩=some v->w'.cell? ⟨b,o,none⟩=some v:=fun o v h=>(O.cell (p:=⟨b,o,none⟩) J).trans h
 exact⟨D _ _ (H 0 _ rfl),D _ _ (H 1 _ rfl),D _ _ (H 2 _ rfl),D _ _ (H 3 _ rfl),D _ _ (H 4 _ rfl),D _ _ (H 5 _ rfl),D _ _ (I 0 _ rfl),D _ _ (I 1 _ rfl),D _ _ (I 2 _ rfl),D _ _ (I 3 _ rfl),D _ _ (I 4 _ rfl),D _ _ (I 5 _ rfl)⟩
def yu(l:List (Int×Dg)):Prop:=l.Pairwise fun x y=>x.1<y.1
theorem yu.lt{l:List (Int×Dg)}(h:yu l){i j:Nat}{p q:Int×Dg}(F:l[i]? =some p)(H:l[j]? =some q)(A:i<j):p.1<q.1:=by
 obtain⟨C,rfl⟩:=acg.1 F;obtain⟨D,rfl⟩:=acg.1 H;exact List.pairwise_iff_getElem.1 h i j C D A
theorem yu.cmp{l:List (Int×Dg)}(h:yu l){i j:Nat}{p q:Int×Dg}(C:l[i]? =some p)(D:l[j]? =some q)(A:i<j):BD q.1 p.1=1:=by
 have:=h.lt C D A;unfold BD;rw[if_neg (by omega),if_pos this]
theorem ins_any(l:List (Int×Dg))(A:Option Addr)(n c a b:Nat)(w:World)(hn:l.length=n)(hR:aS 6 gW w w.heap.size A l)(hS:yu l)(t:a<=b)(hb:b<=n)(hm:n<=1000000):
 Calls Tryz.prog 202 #[.slice A n c,.int .i64 (a:Int),.int .i64 (b:Int),.func (.func 81) #[] #[]] w fun e w'=>e= .returned (.tuple #[])/\Below w.heap.size w w':=by
 have HR:=kH hR;have HS:=kH hS;have HN:=kH hn;clear hR hS hn;have az:IntKind.i64.wrap ((a:Int)+1)=(a:Int)+1:=IntWalk.i64_in _ (by omega);go_in
 go_wp2_with fail
 go_loopg [8] (b+1 - a) (fun gk s8 wr=> ∃i:Nat,s8= .int .i64 ((i:Int)+1)/\a<=i/\i<=b/\gk=b+1 - i/\Hid (Below w.heap.size w wr))
 case atStart=>exact⟨a,rfl,ab9 _,t,rfl,kH (Below.refl _ _)⟩
 obtain⟨i,rfl,al,au,aq,W⟩:=hrel;by_cases aw:i+1<b
 ·have a7:(i:Int)+1<(b:Int):=by omega
  have a1:(a:Int)<(i:Int)+1:=by omega
  obtain⟨p,m⟩:∃p,l[i+1]? =some p:=⟨_,ace (by rw[HN.out];omega)⟩
  obtain⟨q,j⟩:∃q,l[i]? =some q:=⟨_,ace (by rw[HN.out];omega)⟩
  have J:=HS.out.cmp j m (by omega);have R:aS 6 gW wr wr.heap.size A l:=HR.out.later W.out;obtain⟨F,C,hA,an,O⟩:=Bg R m j;subst hA;obtain⟨p1,X,Y,Z,z,k⟩:∃p1 X Y Z z,p=(p1,(⟨X,Y,Z,z⟩:Dg)):=⟨_,_,_,_,_,rfl⟩
  obtain⟨U,y,x,v,u,g⟩:∃U y x v u,q=(U,(⟨y,x,v,u⟩:Dg)):=⟨_,_,_,_,_,rfl⟩
  subst k g;have D:=fun w'=>Ea p1 X Y Z U y x v z u (.slice none 0 0) (.slice none 0 0) w'
  rw[show BD p1 U=1 from J]at D;have HC:=kH D;have BL:=kH O;have ay:IntKind.i64.wrap ((i:Int)+1+1)=(i:Int)+1+1:=IntWalk.i64_in _ (by omega);have ax:IntKind.i64.wrap (i:Int)=(i:Int):=IntWalk.i64_in _ (by omega);have ar:((i:Int)+1).toNat=i+1:=by omega
  have av:i+1<n:=by omega
  have a6:i<n:=by omega
  have aE:(0:Int)<=(i:Int)+1:=by omega
  have b0:(i:Int)+1<(n:Int):=by omega
  have S:=O wr.drew ((Below.refl _ _).drew);clear D O J m j R;go_wp2_with fail
  refine wp_loop_rounds 1 ?_;rw[rounds_succ];go_wp2_with fail
  refine bF (fun w'=>Below wr.heap.size wr w'/\w'.cell? ⟨F,C+(i+1)*6,none⟩=some (.int .i64 p1)/\w'.cell? ⟨F,C+(i+1)*6+1,none⟩=some (.int .i64 X)/\w'.cell? ⟨F,C+(i+1)*6+2,none⟩=some (.int .i64 Y)/\w'.cell? ⟨F,C+(i+1)*6+3,none⟩=some (.int .i64 Z)/\w'.cell? ⟨F,C+(i+1)*6+4,none⟩=some (.string z)/\w'.cell? ⟨F,C+(i+1)*6+5,none⟩=some (.slice none 0 0)/\w'.cell? ⟨F,C+i*6,none⟩=some (.int .i64 U)/\w'.cell? ⟨F,C+i*6+1,none⟩=some (.int .i64 y)/\w'.cell? ⟨F,C+i*6+2,none⟩=some (.int .i64 x)/\w'.cell? ⟨F,C+i*6+3,none⟩=some (.int .i64 v)/\w'.cell? ⟨F,C+i*6+4,none⟩=some (.string u)/\w'.cell? ⟨F,C+i*6+5,none⟩=some (.slice none 0 0)) [] [true,true,true,true,true,true,true,true,true,true,true,true,true,true,false,true,true] (by kernel_rfl) (by kernel_rfl) rfl (by kernel_rfl) ?_;have K:=And.intro ((Below.refl wr.heap.size wr).drew) S;clear S;iterate 14((first|(refine dU (by rfl) K ?_)|(refine bC (by rfl) K (by intro w' L;obtain⟨-,f,d,a8,aa,ab,ad,af,uK,I8,xZ,JQ,QF⟩:=L;go_simp;rfl) ?_));simp only[Act.put,sA,sZ,sC])
  refine dG (by rfl) (by go_simp) ((HC.out _).mono ?_);rintro e5 w5 ⟨rfl,T⟩;have I:Below wr.heap.size wr w5:=((Below.refl wr.heap.size wr).drew).trans T;have H:=And.intro I (BL.out w5 I);refine⟨_,rfl,fun _=>H,?_⟩;iterate 2(simp only[Act.put,sA,sZ,sC];(first|(refine dU (by rfl) H ?_)|(refine bC (by rfl) H (by intro w' L;obtain⟨-,f,d,a8,aa,ab,ad,af,uK,I8,xZ,JQ,QF⟩:=L;go_simp;rfl) ?_)))
  simp only[Act.put,sA,sZ,sC];refine fT ?_;have kF:Hid (Below w.heap.size w w5):=kH (W.out.trans (I.mono W.out.size));clear K H I T;go_wp2_with fail
  go_roundg (gk - 1)
  case measure=>omega
  exact⟨i+1,by simp,by omega,by omega,by omega,kF⟩
 have ao:(b:Int)<=(i:Int)+1:=by omega
 go_wp2_with fail
 go_end0
 exact⟨rfl,W.out⟩
theorem sym_one(l:List (Int×Dg))(A:Option Addr)(n c a m b:Nat)(w:World)(hn:l.length=n)(hR:aS 6 gW w w.heap.size A l)(hS:yu l)(h1:m=a+1)(gZ:a<m)(ao:m<b)(hb:b<=n)(hm:n<=1000000):
 Calls Tryz.prog 203 #[.slice A n c,.int .i64 (a:Int),.int .i64 (m:Int),.int .i64 (b:Int),.func (.func 81) #[] #[]] w fun e w'=>e= .returned (.tuple #[])/\Below w.heap.size w w':=by
 have HR:=kH hR;have HS:=kH hS;have d:=kH hn;clear hR hS hn;have H1:=kH h1;have av:IntKind.i64.wrap ((m:Int) - (a:Int))=(m:Int) - (a:Int):=IntWalk.i64_in _ (by omega);have a8:((m:Int) - (a:Int)==1)=true:=by simp;omega
 have aw:IntKind.i64.wrap ((m:Int) - 1)=(m:Int) - 1:=IntWalk.i64_in _ (by omega);have aa:¬((a:Int)<(m:Int) - 1):=by omega
 clear h1;go_in
 go_wp2_with fail
 go_loopg [10,11] (b - m) (fun gk g f wr=> ∃j:Nat,g= .int .i64 (m:Int)/\f= .int .i64 (j:Int)/\m<=j/\j<=b/\gk=j - m/\Hid (Below w.heap.size w wr))
 case atStart=>exact⟨b,rfl,rfl,by omega,ab9 _,rfl,kH (Below.refl _ _)⟩
 obtain⟨j,rfl,rfl,aq,al,ab,R⟩:=hrel;by_cases an:m<j
 ·have a6:(m:Int)<(j:Int):=by omega
  obtain⟨h,hh⟩:∃h:Nat,h=(m+j) / 2:=⟨_,rfl⟩
  have a1:((m:Int)+(j:Int)) / 2=(h:Int):=by omega
  have y:m<=h:=by omega
  have ad:h<j:=by omega
  have au:IntKind.i64.wrap ((m:Int)+(j:Int))=(m:Int)+(j:Int):=IntWalk.i64_in _ (by omega);clear hh;obtain⟨p,v⟩:∃p,l[h]? =some p:=⟨_,ace (by rw[d.out];omega)⟩
  obtain⟨q,t⟩:∃q,l[a]? =some q:=⟨_,ace (by rw[d.out];omega)⟩
  have H:=HS.out.cmp t v (by omega);have I:aS 6 gW wr wr.heap.size A l:=HR.out.later R.out;obtain⟨F,C,hA,a7,L⟩:=Bg I v t;subst hA;obtain⟨p1,S,T,U,W,u⟩:∃p1 S T U W,p=(p1,(⟨S,T,U,W⟩:Dg)):=⟨_,_,_,_,_,rfl⟩
  obtain⟨O,X,Y,Z,z,k⟩:∃O X Y Z z,q=(O,(⟨X,Y,Z,z⟩:Dg)):=⟨_,_,_,_,_,rfl⟩
  subst u k;have D:=fun w'=>Ea p1 S T U O X Y Z W z (.slice none 0 0) (.slice none 0 0) w'
  rw[show BD p1 O=1 from H]at D;have HC:=kH D;have BL:=kH L;have af:h<n:=by omega
  have YB:a<n:=by omega
  clear D L H v t I;go_wp2_with fail
  go_region_held3 (fun w'=>w'.cell? ⟨F,C+h*6,none⟩=some (.int .i64 p1)/\w'.cell? ⟨F,C+h*6+1,none⟩=some (.int .i64 S)/\w'.cell? ⟨F,C+h*6+2,none⟩=some (.int .i64 T)/\w'.cell? ⟨F,C+h*6+3,none⟩=some (.int .i64 U)/\w'.cell? ⟨F,C+h*6+4,none⟩=some (.string W)/\w'.cell? ⟨F,C+h*6+5,none⟩=some (.slice none 0 0)/\w'.cell? ⟨F,C+a*6,none⟩=some (.int .i64 O)/\w'.cell? ⟨F,C+a*6+1,none⟩=some (.int .i64 X)/\w'.cell? ⟨F,C+a*6+2,none⟩=some (.int .i64 Y)/\w'.cell? ⟨F,C+a*6+3,none⟩=some (.int .i64 Z)/\w'.cell? ⟨F,C+a*6+4,none⟩=some (.string z)/\w'.cell? ⟨F,C+a*6+5,none⟩=some (.slice none 0 0)) (exact BL.out _ (by first|assumption|exact(Below.refl _ _).drew)) ((go_at_call 81;refine(HC.out _).mono ?_;rintro e5 w5 ⟨rfl,J⟩;have K:Below wr.heap.size wr w5:=((Below.refl wr.heap.size wr).drew).trans J))
  have kF:Hid (Below w.heap.size w w5):=kH (R.out.trans (K.mono R.out.size));clear K J;go_wp2_with fail
  go_roundg (h - m)
  case measure=>omega
  exact⟨h,rfl,rfl,y,by omega,rfl,kF⟩
 have x:j=m:=by omega
 subst x;have ar:¬((j:Int)<(j:Int)):=by omega
 go_wp2_with fail
 refine wp_loop_rounds 1 ?_;rw[rounds_succ];go_wp2_with fail
 try simp only[Exit.inBlock,Exit.then]
 refine bodyPost_ret (results_none rfl _ _ _) rfl ?_;exact⟨rfl,R.out⟩
theorem sym_two(l:List (Int×Dg))(A:Option Addr)(n c a m b:Nat)(w:World)(hn:l.length=n)(d:aS 6 gW w w.heap.size A l)(hS:yu l)(g:m≠a+1)(f:b=m+1)(gZ:a<m)(ar:m<b)(hb:b<=n)(hm:n<=1000000):
 Calls Tryz.prog 203 #[.slice A n c,.int .i64 (a:Int),.int .i64 (m:Int),.int .i64 (b:Int),.func (.func 81) #[] #[]] w fun e w'=>e= .returned (.tuple #[])/\Below w.heap.size w w':=by
 have HR:=kH d;have HS:=kH hS;have j:=kH hn;clear d hS hn;have H2:=kH (And.intro g f);have ax:IntKind.i64.wrap ((m:Int) - (a:Int))=(m:Int) - (a:Int):=IntWalk.i64_in _ (by omega);have aa:((m:Int) - (a:Int)==1)=false:=by simp;omega
 have ay:IntKind.i64.wrap ((b:Int) - (m:Int))=(b:Int) - (m:Int):=IntWalk.i64_in _ (by omega);have ab:((b:Int) - (m:Int)==1)=true:=by simp;omega
 clear g f;go_in
 go_wp2_with fail
 go_loopg [14,15] (m - a) (fun gk PV k wr=> ∃i:Nat,PV= .int .i64 (i:Int)/\k= .int .i64 (m:Int)/\a<=i/\i<=m/\gk=m - i/\Hid (Below w.heap.size w wr))
 case atStart=>exact⟨a,rfl,rfl,ab9 _,by omega,rfl,kH (Below.refl _ _)⟩
 obtain⟨i,rfl,rfl,a7,ao,ad,R⟩:=hrel;by_cases aq:i<m
 ·have a6:(i:Int)<(m:Int):=by omega
  obtain⟨h,hh⟩:∃h:Nat,h=(i+m) / 2:=⟨_,rfl⟩
  have a1:((i:Int)+(m:Int)) / 2=(h:Int):=by omega
  have al:i<=h:=by omega
  have af:h<m:=by omega
  have av:IntKind.i64.wrap ((i:Int)+(m:Int))=(i:Int)+(m:Int):=IntWalk.i64_in _ (by omega);have aw:IntKind.i64.wrap ((h:Int)+1)=(h:Int)+1:=IntWalk.i64_in _ (by omega);clear hh;obtain⟨p,x⟩:∃p,l[m]? =some p:=⟨_,ace (by rw[j.out];omega)⟩
  obtain⟨q,u⟩:∃q,l[h]? =some q:=⟨_,ace (by rw[j.out];omega)⟩
  have H:=HS.out.cmp u x (by omega);have I:aS 6 gW wr wr.heap.size A l:=HR.out.later R.out;obtain⟨F,C,hA,a8,L⟩:=Bg I x u;subst hA;obtain⟨p1,S,T,U,W,v⟩:∃p1 S T U W,p=(p1,(⟨S,T,U,W⟩:Dg)):=⟨_,_,_,_,_,rfl⟩
  obtain⟨O,X,Y,Z,z,t⟩:∃O X Y Z z,q=(O,(⟨X,Y,Z,z⟩:Dg)):=⟨_,_,_,_,_,rfl⟩
  subst v t;have D:=fun w'=>Ea p1 S T U O X Y Z W z (.slice none 0 0) (.slice none 0 0) w'
  rw[show BD p1 O=1 from H]at D;have HC:=kH D;have BL:=kH L;have an:h<n:=by omega
  have YB:m<n:=by omega
  clear D L H x u I;go_wp2_with fail
  go_region_held3 (fun w'=>w'.cell? ⟨F,C+m*6,none⟩=some (.int .i64 p1)/\w'.cell? ⟨F,C+m*6+1,none⟩=some (.int .i64 S)/\w'.cell? ⟨F,C+m*6+2,none⟩=some (.int .i64 T)/\w'.cell? ⟨F,C+m*6+3,none⟩=some (.int .i64 U)/\w'.cell? ⟨F,C+m*6+4,none⟩=some (.string W)/\w'.cell? ⟨F,C+m*6+5,none⟩=some (.slice none 0 0)/\w'.cell? ⟨F,C+h*6,none⟩=some (.int .i64 O)/\w'.cell? ⟨F,C+h*6+1,none⟩=some (.int .i64 X)/\w'.cell? ⟨F,C+h*6+2,none⟩=some (.int .i64 Y)/\w'.cell? ⟨F,C+h*6+3,none⟩=some (.int .i64 Z)/\w'.cell? ⟨F,C+h*6+4,none⟩=some (.string z)/\w'.cell? ⟨F,C+h*6+5,none⟩=some (.slice none 0 0)) (exact BL.out _ (by first|assumption|exact(Below.refl _ _).drew)) ((go_at_call 81;refine(HC.out _).mono ?_;rintro e5 w5 ⟨rfl,J⟩;have K:Below wr.heap.size wr w5:=((Below.refl wr.heap.size wr).drew).trans J))
  have kF:Hid (Below w.heap.size w w5):=kH (R.out.trans (K.mono R.out.size));clear K J;go_wp2_with fail
  go_roundg (m - (h+1))
  case measure=>omega
  exact⟨h+1,by simp,rfl,by omega,by omega,rfl,kF⟩
 have y:i=m:=by omega
 subst y;have au:¬((i:Int)<(i:Int)):=by omega
 go_wp2_with fail
 refine wp_loop_rounds 1 ?_;rw[rounds_succ];go_wp2_with fail
 try simp only[Exit.inBlock,Exit.then]
 refine bodyPost_ret (results_none rfl _ _ _) rfl ?_;exact⟨rfl,R.out⟩
theorem sym_up(l:List (Int×Dg))(A:Option Addr)(n c a m b:Nat)(w:World)(hn:l.length=n)(hR:aS 6 gW w w.heap.size A l)(hS:yu l)(h1:m≠a+1)(h2:b≠m+1)(C:Nat)(z:C=(a+b) / 2)(h3:C<m)(K:∀w,aS 6 gW w w.heap.size A l->Calls Tryz.prog 203 #[.slice A n c,.int .i64 (C:Int),.int .i64 (m:Int),.int .i64 (b:Int),.func (.func 81) #[] #[]] w fun e w'=>e= .returned (.tuple #[])/\Below w.heap.size w w')(gZ:a<m)(b4:m<b)(hb:b<=n)(hm:n<=1000000):
 Calls Tryz.prog 203 #[.slice A n c,.int .i64 (a:Int),.int .i64 (m:Int),.int .i64 (b:Int),.func (.func 81) #[] #[]] w fun e w'=>e= .returned (.tuple #[])/\Below w.heap.size w w':=by
 have HR:=kH hR;have HS:=kH hS;have HN:=kH hn;clear hR hS hn;have Hu:=kH K;have al:=kH (And.intro h1 (And.intro h2 h3));have bc:IntKind.i64.wrap ((m:Int) - (a:Int))=(m:Int) - (a:Int):=IntWalk.i64_in _ (by omega);have aq:((m:Int) - (a:Int)==1)=false:=by simp;omega
 have bd:IntKind.i64.wrap ((b:Int) - (m:Int))=(b:Int) - (m:Int):=IntWalk.i64_in _ (by omega);have ar:((b:Int) - (m:Int)==1)=false:=by simp;omega
 have bh:IntKind.i64.wrap ((a:Int)+(b:Int))=(a:Int)+(b:Int):=IntWalk.i64_in _ (by omega);have aa:((a:Int)+(b:Int)) / 2=(C:Int):=by omega
 obtain⟨H,O⟩:∃H:Nat,H=C+m:=⟨_,rfl⟩
 have dH:IntKind.i64.wrap ((C:Int)+(m:Int))=(H:Int):=by rw[O,IntWalk.i64_in _ (by omega)];omega
 obtain⟨R,Li⟩:∃R:Nat,R+1=H:=⟨H - 1,by omega⟩
 have b7:IntKind.i64.wrap ((H:Int) - 1)=(R:Int):=by rw[IntWalk.i64_in _ (by omega)];omega
 obtain⟨S,y⟩:∃S:Nat,S+b=H:=⟨H - b,by omega⟩
 have ba:IntKind.i64.wrap ((H:Int) - (b:Int))=(S:Int):=by rw[IntWalk.i64_in _ (by omega)];omega
 have au:IntKind.i64.wrap ((H:Int) - (C:Int))=(m:Int):=by rw[IntWalk.i64_in _ (by omega)];omega
 have ay:(C:Int)<(m:Int):=by omega
 have a8:(m:Int)<(b:Int):=by omega
 have b5:¬((m:Int)<(m:Int)):=by omega
 have b6:¬((C:Int)<(C:Int)):=by omega
 have L:Hid (C=(a+b) / 2/\H=C+m/\R+1=H/\S+b=H):=kH ⟨z,O,Li,y⟩;clear z O Li K h1 h2 y;go_in
 go_wp2_with fail
 go_loopg [20,21] (C - S) (fun gk af XF wr=> ∃i:Nat,af= .int .i64 (i:Int)/\XF= .int .i64 (C:Int)/\S<=i/\i<=C/\gk=C - i/\Hid (Below w.heap.size w wr))
 case atStart=>exact⟨S,rfl,rfl,ab9 _,by have:=L.out;omega,rfl,kH (Below.refl _ _)⟩
 obtain⟨i,rfl,rfl,an,b2,aw,T⟩:=hrel;by_cases b3:i<C
 ·have a7:(i:Int)<(C:Int):=by omega
  obtain⟨h,hh⟩:∃h:Nat,h=(i+C) / 2:=⟨_,rfl⟩
  have a1:((i:Int)+(C:Int)) / 2=(h:Int):=by omega
  have b0:i<=h:=by omega
  have aE:h<C:=by omega
  have b8:IntKind.i64.wrap ((i:Int)+(C:Int))=(i:Int)+(C:Int):=IntWalk.i64_in _ (by have:=L.out;omega);have b9:IntKind.i64.wrap ((h:Int)+1)=(h:Int)+1:=IntWalk.i64_in _ (by have:=L.out;omega);obtain⟨g,hg⟩:∃g:Nat,g+h=R:=⟨R - h,by have:=L.out;omega⟩
  have az:IntKind.i64.wrap ((R:Int) - (h:Int))=(g:Int):=by rw[IntWalk.i64_in _ (by have:=L.out;omega)];omega
  have av:h<g:=by have:=L.out;omega
  have ax:g<n:=by have:=L.out;omega
  clear hh hg;obtain⟨p,hp⟩:∃p,l[g]? =some p:=⟨_,ace (by rw[HN.out];omega)⟩
  obtain⟨q,hq⟩:∃q,l[h]? =some q:=⟨_,ace (by rw[HN.out];omega)⟩
  have J:=HS.out.cmp hq hp (by omega);have U:aS 6 gW wr wr.heap.size A l:=HR.out.later T.out;obtain⟨I,F,hA,ao,Z⟩:=Bg U hp hq;subst hA;obtain⟨p1,v,u,t,k,ab⟩:∃p1 v u t k,p=(p1,(⟨v,u,t,k⟩:Dg)):=⟨_,_,_,_,_,rfl⟩
  obtain⟨x,j,f,d,q5,ad⟩:∃x j f d q5,q=(x,(⟨j,f,d,q5⟩:Dg)):=⟨_,_,_,_,_,rfl⟩
  subst ab ad;have D:=fun w'=>Ea p1 v u t x j f d k q5 (.slice none 0 0) (.slice none 0 0) w'
  rw[show BD p1 x=1 from J]at D;have HC:=kH D;have BL:=kH Z;have b1:h<n:=by omega
  clear D Z J hp hq U;go_wp2_with fail
  go_region_held3 (fun w'=>w'.cell? ⟨I,F+g*6,none⟩=some (.int .i64 p1)/\w'.cell? ⟨I,F+g*6+1,none⟩=some (.int .i64 v)/\w'.cell? ⟨I,F+g*6+2,none⟩=some (.int .i64 u)/\w'.cell? ⟨I,F+g*6+3,none⟩=some (.int .i64 t)/\w'.cell? ⟨I,F+g*6+4,none⟩=some (.string k)/\w'.cell? ⟨I,F+g*6+5,none⟩=some (.slice none 0 0)/\w'.cell? ⟨I,F+h*6,none⟩=some (.int .i64 x)/\w'.cell? ⟨I,F+h*6+1,none⟩=some (.int .i64 j)/\w'.cell? ⟨I,F+h*6+2,none⟩=some (.int .i64 f)/\w'.cell? ⟨I,F+h*6+3,none⟩=some (.int .i64 d)/\w'.cell? ⟨I,F+h*6+4,none⟩=some (.string q5)/\w'.cell? ⟨I,F+h*6+5,none⟩=some (.slice none 0 0)) (exact BL.out _ (by first|assumption|exact(Below.refl _ _).drew)) ((go_at_call 81;refine(HC.out _).mono ?_;rintro e5 w5 ⟨rfl,W⟩;have Y:Below wr.heap.size wr w5:=((Below.refl wr.heap.size wr).drew).trans W))
  have kF:Hid (Below w.heap.size w w5):=kH (T.out.trans (Y.mono T.out.size));clear Y W;go_wp2_with fail
  go_roundg (C - (h+1))
  case measure=>omega
  exact⟨h+1,by simp,rfl,by omega,by omega,rfl,kF⟩
 have a6:i=C:=by omega
 subst a6;have D:=Hu.out wr (HR.out.later T.out);have HC:=kH D;clear D;go_wp2_with fail
 refine HC.out.mono ?_;rintro e6 w6 ⟨rfl,X⟩;have zH:Hid (Below w.heap.size w w6):=kH (T.out.trans (X.mono T.out.size));clear X;go_wp2_with fail
 go_end0
 exact⟨rfl,zH.out⟩
theorem Z5(l:List (Int×Dg))(A:Option Addr)(n c a m b:Nat)(w:World)(hn:l.length=n)(hR:aS 6 gW w w.heap.size A l)(hS:yu l)(h1:m≠a+1)(h2:b≠m+1)(C:Nat)(z:C=(a+b) / 2)(h3:¬C<m)(K:m<C->∀w,aS 6 gW w w.heap.size A l->Calls Tryz.prog 203 #[.slice A n c,.int .i64 (a:Int),.int .i64 (m:Int),.int .i64 (C:Int),.func (.func 81) #[] #[]] w fun e w'=>e= .returned (.tuple #[])/\Below w.heap.size w w')(gZ:a<m)(b5:m<b)(hb:b<=n)(hm:n<=1000000):
 Calls Tryz.prog 203 #[.slice A n c,.int .i64 (a:Int),.int .i64 (m:Int),.int .i64 (b:Int),.func (.func 81) #[] #[]] w fun e w'=>e= .returned (.tuple #[])/\Below w.heap.size w w':=by
 have HR:=kH hR;have HS:=kH hS;have HN:=kH hn;clear hR hS hn;have Hu:=kH K;have an:=kH (And.intro h1 (And.intro h2 h3));have bc:IntKind.i64.wrap ((m:Int) - (a:Int))=(m:Int) - (a:Int):=IntWalk.i64_in _ (by omega);have ar:((m:Int) - (a:Int)==1)=false:=by simp;omega
 have bd:IntKind.i64.wrap ((b:Int) - (m:Int))=(b:Int) - (m:Int):=IntWalk.i64_in _ (by omega);have au:((b:Int) - (m:Int)==1)=false:=by simp;omega
 have bh:IntKind.i64.wrap ((a:Int)+(b:Int))=(a:Int)+(b:Int):=IntWalk.i64_in _ (by omega);have ab:((a:Int)+(b:Int)) / 2=(C:Int):=by omega
 obtain⟨I,R⟩:∃I:Nat,I=C+m:=⟨_,rfl⟩
 have dH:IntKind.i64.wrap ((C:Int)+(m:Int))=(I:Int):=by rw[R,IntWalk.i64_in _ (by omega)];omega
 obtain⟨S,Li⟩:∃S:Nat,S+1=I:=⟨I - 1,by omega⟩
 have b8:IntKind.i64.wrap ((I:Int) - 1)=(S:Int):=by rw[IntWalk.i64_in _ (by omega)];omega
 have av:IntKind.i64.wrap ((I:Int) - (m:Int))=(C:Int):=by rw[IntWalk.i64_in _ (by omega)];omega
 have az:¬((C:Int)<(m:Int)):=by omega
 have a1:(a:Int)<(m:Int):=by omega
 have b6:¬((m:Int)<(m:Int)):=by omega
 have b7:¬((C:Int)<(C:Int)):=by omega
 have O:Hid (C=(a+b) / 2/\I=C+m/\S+1=I):=kH ⟨z,R,Li⟩;clear z R Li K h1 h2;go_in
 go_wp2_with fail
 go_loopg [20,21] (m - a) (fun gk al XF wr=> ∃i:Nat,al= .int .i64 (i:Int)/\XF= .int .i64 (m:Int)/\a<=i/\i<=m/\gk=m - i/\Hid (Below w.heap.size w wr))
 case atStart=>exact⟨a,rfl,rfl,ab9 _,by have:=O.out;omega,rfl,kH (Below.refl _ _)⟩
 obtain⟨i,rfl,rfl,ao,b3,ax,L⟩:=hrel;by_cases b4:i<m
 ·have aa:(i:Int)<(m:Int):=by omega
  obtain⟨h,hh⟩:∃h:Nat,h=(i+m) / 2:=⟨_,rfl⟩
  have a6:((i:Int)+(m:Int)) / 2=(h:Int):=by omega
  have b1:i<=h:=by omega
  have b0:h<m:=by omega
  have b9:IntKind.i64.wrap ((i:Int)+(m:Int))=(i:Int)+(m:Int):=IntWalk.i64_in _ (by have:=O.out;omega);have ba:IntKind.i64.wrap ((h:Int)+1)=(h:Int)+1:=IntWalk.i64_in _ (by have:=O.out;omega);obtain⟨g,hg⟩:∃g:Nat,g+h=S:=⟨S - h,by have:=O.out;omega⟩
  have aE:IntKind.i64.wrap ((S:Int) - (h:Int))=(g:Int):=by rw[IntWalk.i64_in _ (by have:=O.out;omega)];omega
  have aw:h<g:=by have:=O.out;omega
  have ay:g<n:=by have:=O.out;omega
  clear hh hg;obtain⟨p,hp⟩:∃p,l[g]? =some p:=⟨_,ace (by rw[HN.out];omega)⟩
  obtain⟨q,hq⟩:∃q,l[h]? =some q:=⟨_,ace (by rw[HN.out];omega)⟩
  have J:=HS.out.cmp hq hp (by omega);have T:aS 6 gW wr wr.heap.size A l:=HR.out.later L.out;obtain⟨H,F,hA,aq,Y⟩:=Bg T hp hq;subst hA;obtain⟨p1,x,v,u,t,ad⟩:∃p1 x v u t,p=(p1,(⟨x,v,u,t⟩:Dg)):=⟨_,_,_,_,_,rfl⟩
  obtain⟨y,k,j,f,d,af⟩:∃y k j f d,q=(y,(⟨k,j,f,d⟩:Dg)):=⟨_,_,_,_,_,rfl⟩
  subst ad af;have D:=fun w'=>Ea p1 x v u y k j f t d (.slice none 0 0) (.slice none 0 0) w'
  rw[show BD p1 y=1 from J]at D;have HC:=kH D;have BL:=kH Y;have b2:h<n:=by omega
  clear D Y J hp hq T;go_wp2_with fail
  go_region_held3 (fun w'=>w'.cell? ⟨H,F+g*6,none⟩=some (.int .i64 p1)/\w'.cell? ⟨H,F+g*6+1,none⟩=some (.int .i64 x)/\w'.cell? ⟨H,F+g*6+2,none⟩=some (.int .i64 v)/\w'.cell? ⟨H,F+g*6+3,none⟩=some (.int .i64 u)/\w'.cell? ⟨H,F+g*6+4,none⟩=some (.string t)/\w'.cell? ⟨H,F+g*6+5,none⟩=some (.slice none 0 0)/\w'.cell? ⟨H,F+h*6,none⟩=some (.int .i64 y)/\w'.cell? ⟨H,F+h*6+1,none⟩=some (.int .i64 k)/\w'.cell? ⟨H,F+h*6+2,none⟩=some (.int .i64 j)/\w'.cell? ⟨H,F+h*6+3,none⟩=some (.int .i64 f)/\w'.cell? ⟨H,F+h*6+4,none⟩=some (.string d)/\w'.cell? ⟨H,F+h*6+5,none⟩=some (.slice none 0 0)) (exact BL.out _ (by first|assumption|exact(Below.refl _ _).drew)) ((go_at_call 81;refine(HC.out _).mono ?_;rintro e5 w5 ⟨rfl,U⟩;have X:Below wr.heap.size wr w5:=((Below.refl wr.heap.size wr).drew).trans U))
  have kF:Hid (Below w.heap.size w w5):=kH (L.out.trans (X.mono L.out.size));clear X U;go_wp2_with fail
  go_roundg (m - (h+1))
  case measure=>omega
  exact⟨h+1,by simp,rfl,by omega,by omega,rfl,kF⟩
 have a7:i=m:=by omega
 subst a7;by_cases a8:i<C
 ·have Z:(i:Int)<(C:Int):=by omega
  have D:=Hu.out a8 wr (HR.out.later L.out);have HC:=kH D;clear D;go_wp2_with fail
  refine HC.out.mono ?_;rintro e6 w6 ⟨rfl,W⟩;have zH:Hid (Below w.heap.size w w6):=kH (L.out.trans (W.mono L.out.size));clear W;go_wp2_with fail
  go_end0
  exact⟨rfl,zH.out⟩
 have Z:¬((i:Int)<(C:Int)):=by omega
 go_wp2_with fail
 go_end0
 exact⟨rfl,L.out⟩
theorem Mr(l:List (Int×Dg))(A:Option Addr)(n c:Nat)(H:l.length=n)(D:yu l)(F:n<=1000000):∀(k a m b:Nat),b - a<=k->a<m->m<b->b<=n->∀w:World,aS 6 gW w w.heap.size A l ->
 Calls Tryz.prog 203 #[.slice A n c,.int .i64 (a:Int),.int .i64 (m:Int),.int .i64 (b:Int),.func (.func 81) #[] #[]] w fun e w'=>e= .returned (.tuple #[])/\Below w.heap.size w w'
 | 0,a,m,b,h,h1,h2,_,_,_=>by omega
 | k+1,a,m,b,h,h1,h2,h3,w,C=>by
  by_cases I:m=a+1
  ·exact sym_one l A n c a m b w H C D I h1 h2 h3 F
  by_cases J:b=m+1
  ·exact sym_two l A n c a m b w H C D I J h1 h2 h3 F
  by_cases K:(a+b) / 2<m
  ·exact sym_up l A n c a m b w H C D I J _ rfl K (fun w C=>Mr l A n c H D F k _ m b (by omega) K h2 h3 w C) h1 h2 h3 F
  exact Z5 l A n c a m b w H C D I J _ rfl K (fun L w C=>Mr l A n c H D F k a m _ (by omega) h1 L (by omega) w C) h1 h2 h3 F
theorem UZ(l:List (Int×Dg))(A:Option Addr)(n c:Nat)(w:World)(q:l.length=n)(x:aS 6 gW w w.heap.size A l)(v:yu l)(hm:n<=1000000):
 Calls Tryz.prog 150 #[.slice A n c,.int .i64 (n:Int),.func (.func 81) #[] #[]] w fun e w'=>e= .returned (.tuple #[])/\Below w.heap.size w w':=by
 have K:∀(a b:Nat) (w1:World),Below w.heap.size w w1->a<=b->b<=n->Calls Tryz.prog 202 #[.slice A n c,.int .i64 (a:Int),.int .i64 (b:Int),.func (.func 81) #[] #[]] w1 fun e w'=>e= .returned (.tuple #[])/\Below w.heap.size w w':=fun a b w1 R Z z=>
  (ins_any l A n c a b w1 q (x.later R) v Z z hm).mono fun e w' ⟨T,y⟩=>⟨T,R.trans (y.mono R.size)⟩
 have MQ:∀(a m b:Nat) (w1:World),Below w.heap.size w w1->a<m->m<b->b<=n->Calls Tryz.prog 203 #[.slice A n c,.int .i64 (a:Int),.int .i64 (m:Int),.int .i64 (b:Int),.func (.func 81) #[] #[]] w1 fun e w'=>e= .returned (.tuple #[])/\Below w.heap.size w w':=fun a m b w1 R Z z T=>
  (Mr l A n c q v hm (b - a) a m b (ab9 _) Z z T w1 (x.later R)).mono fun e w' ⟨T,y⟩=>⟨T,R.trans (y.mono R.size)⟩
 have I:=kH K;have J:=kH MQ;clear K MQ q x v;go_in
 go_wp2_with fail
 go_loopg [7,8] (n+1) (fun gk j g wr=> ∃i:Nat,j= .int .i64 (i:Int)/\g= .int .i64 ((i:Int)+20)/\i<=n/\gk=n+1 - i/\Hid (Below w.heap.size w wr))
 case atStart=>exact⟨0,rfl,rfl,Nat.zero_le _,rfl,kH (Below.refl _ _)⟩
 obtain⟨i,rfl,rfl,u,af,d⟩:=hrel;by_cases U:i+20<=n
 ·have a8:(i:Int)+20<=(n:Int):=by omega
  have hw:IntKind.i64.wrap ((i:Int)+20+20)=(i:Int)+20+20:=IntWalk.i64_in _ (by omega);have C:=I.out i (i+20) wr d.out (by omega) U;rw[show((i+20:Nat):Int)=(i:Int)+20 by omega]at C;have X:=kH C;clear C;go_wp2_with fail
  refine X.out.mono ?_;rintro e5 w5 ⟨rfl,F⟩;have k:=kH F;clear F;go_wp2_with fail
  go_roundg (n+1 - (i+20))
  case measure=>omega
  exact⟨i+20,by simp,by simp,U,rfl,k⟩
 have ao:¬((i:Int)+20<=(n:Int)):=by omega
 have C:=I.out i n wr d.out u (ab9 _);have X:=kH C;clear C;go_wp2_with fail
 refine X.out.mono ?_;rintro e5 w5 ⟨rfl,F⟩;have k:=kH F;clear F;go_wp2_with fail
 obtain⟨wo,az⟩:∃wo:World,wo=w5:=⟨_,rfl⟩
 go_loopg [6] (n+1 - 20) (fun gk s6 wr=> ∃s:Nat,s6= .int .i64 (s:Int)/\20<=s/\s<=n+n+20/\gk=n+1 - s/\Hid (Below w.heap.size w wr))
 case atStart=>exact⟨20,rfl,ab9 _,by omega,by omega,k⟩
 obtain⟨s,rfl,ab,au,an,S⟩:=hrel;by_cases aq:s<n
 ·have aa:(s:Int)<(n:Int):=by omega
  have av:IntKind.i64.wrap (2*(s:Int))=2*(s:Int):=IntWalk.i64_in _ (by omega);have aw:IntKind.i64.wrap ((s:Int)*2)=(s:Int)*2:=IntWalk.i64_in _ (by omega);go_wp2_with fail
  obtain⟨go,al⟩:∃go:Nat,go=gk:=⟨_,rfl⟩
  go_loopg [7,8] (n+1) (fun gk j g wr=> ∃i:Nat,j= .int .i64 (i:Int)/\g= .int .i64 ((i:Int)+2*(s:Int))/\i<=n/\gk=n+1 - i/\Hid (Below w.heap.size w wr))
  case atStart=>exact⟨0,rfl,by simp,Nat.zero_le _,rfl,S⟩
  obtain⟨D,rfl,rfl,a7,a1,O⟩:=hrel;have ax:IntKind.i64.wrap ((D:Int)+(s:Int))=(D:Int)+(s:Int):=IntWalk.i64_in _ (by omega);by_cases L:D+2*s<=n
  ·have t:(D:Int)+2*(s:Int)<=(n:Int):=by omega
   have ay:IntKind.i64.wrap ((D:Int)+2*(s:Int)+2*(s:Int))=(D:Int)+2*(s:Int)+2*(s:Int):=IntWalk.i64_in _ (by omega);have C:=J.out D (D+s) (D+2*s) _ O.out (by omega) (by omega) L;rw[show((D+s:Nat):Int)=(D:Int)+(s:Int) by omega,show((D+2*s:Nat):Int)=(D:Int)+2*(s:Int) by omega]at C;have Y:=kH C;clear C;go_wp2_with fail
   refine Y.out.mono ?_;rintro e6 w6 ⟨rfl,H⟩;have f:=kH H;clear H;go_wp2_with fail
   go_roundg (n+1 - (D+2*s))
   case measure=>omega
   exact⟨D+2*s,by simp,by simp,L,rfl,f⟩
  have a6:¬((D:Int)+2*(s:Int)<=(n:Int)):=by omega
  by_cases ar:D+s<n
  ·have W:(D:Int)+(s:Int)<(n:Int):=by omega
   have C:=J.out D (D+s) n _ O.out (by omega) (by omega) (ab9 _);rw[show((D+s:Nat):Int)=(D:Int)+(s:Int) by omega]at C;have Y:=kH C;clear C;go_wp2_with fail
   refine Y.out.mono ?_;rintro e6 w6 ⟨rfl,H⟩;have f:=kH H;clear H;go_wp2_with fail
   go_roundg (n+1 - 2*s)
   case measure=>omega
   exact⟨2*s,by simp;omega,by omega,by omega,rfl,f⟩
  have W:¬((D:Int)+(s:Int)<(n:Int)):=by omega
  go_wp2_with fail
  go_roundg (n+1 - 2*s)
  case measure=>omega
  exact⟨2*s,by simp;omega,by omega,by omega,rfl,O⟩
 have ad:¬((s:Int)<(n:Int)):=by omega
 go_wp2_with fail
 go_end0
 exact⟨rfl,S.out⟩
theorem Ms(l:List (Int×Dg))(A:Option Addr)(n c:Nat)(w:World)(J:l.length=n)(D:aS 6 gW w w.heap.size A l)(F:yu l)(L:n<=1000000):
 Calls Tryz.prog 80 #[.slice A n c,.func (.func 81) #[] #[]] w fun e w'=>e= .returned (.tuple #[])/\Below w.heap.size w w':=by
 have I:=UZ l A n c w J D F L;have C:=kH I;clear I J D F;go_in
 go_wp2_with fail
 refine C.out.mono ?_;rintro e O ⟨rfl,H⟩;have K:=kH H;clear H C;go_wp2_with fail
 go_end0
 exact⟨rfl,K.out⟩
end Go.Proofs.YtoepemlnlpamlaaGreat
namespace Go.Proofs.YtoepemlnlpamlaaGreat
def zV:List Bool->Nat
 | []=>0
 | b::l=>(if b then 0 else 1)+zV l
theorem Rs:∀(l:List Bool) (i:Nat),l[i]? =some false->zV (l.set i true)+1=zV l
 | [],i,h=>by simp at h
 | b::l,0,h=>by
  simp at h;subst h;simp[zV];omega
 | b::l,i+1,h=>by
  have:=Rs l i (by simpa using h);simp only[sC,zV];omega
theorem Og:∀(l:List Bool),zV l=0->∀i,i<l.length->l[i]? =some true
 | [],_,i,h=>by simp at h
 | b::l,h,0,_=>by
  cases b with
  | true=>rfl
  | false=>simp[zV]at h
 | b::l,h,i+1,hi=>by
  have:zV l=0:=by unfold zV at h;omega
  simpa using Og l this i (by simpa using hi)
theorem abB(n:Nat):zV (List.replicate n false)=n:=by
 induction n with
 | zero=>rfl
 | succ n ih=>simp only[List.replicate_succ,zV,ih];simp;omega
section
variable {P:Program}{ops:Array Oper}{Q:Exit->Act->World->Prop}{md:Region.Mode}
theorem WQ(F:∀(i:Nat) (o:Oper),ops[i]? =some o->∀e∈o.after,e.on<i){A:Array Bool}(R:A.size=ops.size)(O:Region.ready md ops A=[]):∀i,i<ops.size->A.getD i true=true:=by
 intro i
 induction i using Nat.strongRecOn with
 | ind i ih=>
  intro K
  cases L:A.getD i true with
  | true=>rfl
  | false=>
   exfalso
   have D:ops[i]? =some ops[i]:=Array.getElem?_eq_getElem K
   have:i∈Region.ready md ops A:=mem_ready.2 ⟨L,ops[i],D,fun e J _=>by
    have H:=F i _ D e J;have C:=ih e.on H (by omega);have I:e.on<A.size:=by omega
    simp[I]at C⊢
    exact C⟩
   rw[O]at this;cases this
theorem Xk(I:Array Bool->Act->World->Prop)(U:∀(i:Nat) (o:Oper),ops[i]? =some o->∀e∈o.after,e.on<i)
 (H:∀A a w i,A.size=ops.size->I A a w->i∈Region.ready md ops A->wpOp P ops Q i (I (A.setIfInBounds i true)) a w)
 (D:∀A a w,A.size=ops.size->(∀i,i<ops.size->A.getD i true=true)->I A a w->Q .normal a w):
 ∀(fuel:Nat) (A:Array Bool) (a:Act) (w:World),A.size=ops.size->zV A.toList<=fuel->I A a w->wpAny P md ops Q fuel A a w:=by
 intro fuel
 induction fuel with
 | zero=>
  intro A a w F Z O
  have C:∀i,i<ops.size->A.getD i true=true:=by
   intro i L;have:=Og A.toList (by omega) i (by simpa [F] using L);have K:i<A.size:=by omega
   simp[K]at this⊢;exact this
  refine⟨?_,D A a w F C O⟩
  cases S:Region.ready md ops A with
  | nil=>rfl
  | cons j l=>
   exfalso
   have z:j∈Region.ready md ops A:=by rw[S];simp
   obtain⟨J,o,K,-⟩:=mem_ready.1 z;have T:j<ops.size:=(acd.1 K).1;rw[C j T]at J
   cases J
 | succ fuel ih=>
  intro A a w F Z O;refine⟨fun S=>D A a w F (WQ U F S) O,fun i L=>?_⟩;have J:=(mem_ready.1 L).1;obtain⟨o,K,-⟩:=(mem_ready.1 L).2;have T:i<ops.size:=(acd.1 K).1;have X:i<A.size:=by omega
  have Y:A.toList[i]? =some false:=by simp[X]at J⊢;exact J
  refine wpOp_mono (fun W w' R=>ih _ W w' (by simpa using F) ?_ R) (H A a w i F O L);have:=Rs A.toList i Y;rw[Array.toList_setIfInBounds];omega
theorem OH{R:Nat}{a:Act}{w:World}{l:List Oper}(I:Array Bool->Act->World->Prop)(O:P.follows .mixedOrders=true)
 (F:∀(i:Nat) (o:Oper),l.toArray[i]? =some o->∀e∈o.after,e.on<i)
 (H:I (Array.replicate l.toArray.size false) a w.drew)
 (C:∀A a w i,A.size=l.toArray.size->I A a w->i∈Region.ready .any l.toArray A->wpOp P l.toArray (NoPanic Q) i (I (A.setIfInBounds i true)) a w)
 (D:∀A a w,A.size=l.toArray.size->(∀i,i<l.toArray.size->A.getD i true=true)->I A a w->Q .normal a w):(Code.region R l.toArray true).wp P Q a w:=by
 refine wp_region_noPanic (wp_region_any O ?_);exact Xk (md:=.any) I F C (fun A a w J K L=>(D A a w J K L:Q .normal a w)) l.toArray.size _ a _ (by simp) (by rw[Array.toList_replicate,abB];exact ab9 _) H
def Fg(ops:Array Oper)(T:Nat->World->Value->Prop)(listed:Array Bool)(a:Act)(w:World):Prop:=
 ∀(i:Nat) (o:Oper) (t:Nat),ops[i]? =some o->o.dst=some t->listed.getD i false=true->∃v,a.tmps[t]? =some v/\T t w v
theorem Fg.put{T:Nat->World->Value->Prop}{A:Array Bool}{a:Act}{w w':World}(h:Fg ops T A a w)(u:A.size=ops.size)(Z:∀t v,T t w v->T t w' v)
 (H:∀(i j:Nat) (o J:Oper) (t:Nat),ops[i]? =some o->ops[j]? =some J->o.dst=some t->J.dst=some t->i=j)
 {i:Nat}{o:Oper}{t:Nat}{v:Value}(U:ops[i]? =some o) (K:o.dst=some t) (z:t<a.tmps.size) (y:T t w' v):Fg ops T (A.setIfInBounds i true) (a.put o.dst v) w':=by
 intro j J R C D S;rw[K];have I:(a.put (some t) v).tmps=a.tmps.setIfInBounds t v:=rfl;rw[I];by_cases F:j=i
 ·subst F
  rw[U]at C;cases C
  rw[K]at D;cases D
  exact⟨v,by simp[z],y⟩
 have L:A.getD j false=true:=by
  have Y:j<A.size:=by have:=(acd.1 C).1;omega
  simp[Y,Ne.symm F]at S⊢;exact S
 obtain⟨x,W,X⟩:=h j J R C D L
 have O:R≠t:=by
  rintro rfl;exact F (H j i J o R C U D K)
 exact⟨x,by rw[Array.getElem?_setIfInBounds_ne (Ne.symm O)];exact W,Z _ _ X⟩
theorem Fg.skip{T:Nat->World->Value->Prop}{A:Array Bool}{a:Act}{w w':World}(h:Fg ops T A a w)(Y:A.size=ops.size)(O:∀t v,T t w v->T t w' v)
 {i:Nat}{o:Oper}(S:ops[i]? =some o) (R:o.dst=none):Fg ops T (A.setIfInBounds i true) a w':=by
 intro j U W C D I;by_cases F:j=i
 ·subst F
  rw[S]at C;cases C
  rw[R]at D;cases D
 have H:A.getD j false=true:=by
  have L:j<A.size:=by have:=(acd.1 C).1;omega
  simp[L,Ne.symm F]at I⊢;exact I
 obtain⟨X,J,K⟩:=h j U W C D H;exact⟨X,J,O _ _ K⟩
end
end Go.Proofs.YtoepemlnlpamlaaGreat
