/- The law NamesVisibleAt holds where what it reads is of bulk at most 1048576: it returns true, and its arguments read as before. Part 25: Nam6 Nam7 Nam8. -/
import Derived.Test.YtoepemlnlpamlaaGreatVisa02
import Derived.Test.YtoepemlnlpamlaaGreatVisa18
import Derived.Test.YtoepemlnlpamlaaGreatVisa22
import Derived.Test.YtoepemlnlpamlaaGreatVisa24
set_option maxRecDepth 100000
set_option maxHeartbeats 4000000
namespace Go.Proofs.YtoepemlnlpamlaaGreat
open Go.RowKit
theorem yD(l:lH)(x:ByteArray)(n:Int):p8 (jS l) x (.int .i64 n)=jS (dh l x n):=JV (Value.int .i64) x n l
theorem aX.oO{E:RC}{G:bC}{r:RS}{V:RV}{w:World}(h:aX E G r V w):∀g B,E.uA.map (·.block)=some g->w.heap[g]?≠some (.cells B 95 (0,0)):=by
 intro g B A F
 have H:(Value.slice E.uA r.uses.length E.uc).ownBlock=some g:=by
  cases C:E.uA with
  | none=>rw[C]at A;cases A
  | some p=>rw[C]at A;simpa [Value.ownBlock] using A
 obtain⟨cur,D⟩:=h.us.obj g H;rw[F]at D;simp at D
theorem aX.U4{E:RC}{G:bC}{r:RS}{V:RV}{w:World}(h:aX E G r V w){g:Nat}{C:Array Value}(D:aj w g 24 C):E.uA.map (·.block)≠some g:=by
 intro A
 have F:(Value.slice E.uA r.uses.length E.uc).ownBlock=some g:=by
  cases B:E.uA with
  | none=>rw[B]at A;cases A
  | some p=>rw[B]at A;simpa [Value.ownBlock] using A
 exact h.us.cB D (by decide) F
structure Eh (E:RC) (ms:List Nat):Prop where
 nodup:ms.Nodup
 apart:∀m∈ms,m≠E.g/\m≠E.f/\m≠E.k/\m≠E.vi
theorem aX.oP{E:RC}{G:bC}{r:RS}{V:RV}{w w':World}{m:Nat}(h:aX E G r V w)(B:aF (fun g=>g=m) w w')(F:m≠E.g/\m≠E.f/\m≠E.k/\m≠E.vi)(D:∃J I,w.heap[m]? =some (.map J I)):aX E G r V w':=by
 obtain⟨J,I,D⟩:=D
 have H:∀{g:Nat}{t:TypeId}{M:Array Value},aj w g t M->g≠m:=fun H e=>by
  subst e;have:w.heap[_]? =some (Obj.cells _ _ (0,0)):=H;rw[D]at this;cases this
 have A:∀{e size v n xs},aK w E.base e size v n xs->aK w' E.base e size v n xs:=fun K=>K.since B (fun g C e=>by
  subst e;obtain⟨cur,L⟩:=K.obj _ C;rw[D]at L
  cases L)
 refine⟨h.blk.since B (H h.blk),h.gl.since B (fun e=>F.1 e.symm),h.fl.since B (fun e=>F.2.1 e.symm),h.kn.since B (fun e=>F.2.2.1 e.symm),h.vi.since B (fun e=>F.2.2.2 e.symm),?_,A h.ds,A h.us,A h.ps,h.low,h.apart⟩;refine fG.of_block h.aR fun g cur C _=>B.block g (aae.1 C).1 fun e=>?_
 subst e;rw[D]at C;cases C
theorem bA.isMap{K:Type}[DecidableEq K]{KK:oW K}{w:World}{r:Nat}{m:List (K×Value)}(h:bA KK w r m):∃B A,w.heap[r]? =some (.map B A):=by
 obtain⟨B,A,C,_⟩:=h;exact⟨B,A,C⟩
theorem KX.oP{E:RC}{w w':World}{m:Nat}{M:Nat->Prop}(G:aF (fun g=>g=m) w w')(D:M m)(C:E.base<=m)(F:∃B A,w.heap[m]? =some (.map B A)):KX E M w w':=
 aF.mono G fun g e=>by subst e;exact⟨C,.inr ⟨F,D⟩⟩
theorem PL(E:RC)(G:bC)(r:RS)(V:RV)(w:World)(h:aX E G r V w)(hN:r.ds.length<=1000000)(hP:r.aY.length<=1000000)(j:E.base<=w.heap.size)(kind:Int)(n:Nat)(hn:n<r.uses.length)(t:ae)(A:Option Addr)(c:Nat)
 (l:lH) (s:aS) (p:Option Addr) (m:Nat) (R:List Nat) (hs:bL w E.base p (l::s) (m::R)) (X:Eh E (m::R)):
 Calls Tryz.prog 148 #[.pointer (some ⟨E.rp,0,none⟩),.int .i64 kind,.int .i64 (n:Int),aZ t A c,.pointer p] w fun e w'=>e= .returned (.tuple #[])/\∃u,aX E G (aH G r kind n t (l::s)).1 u w'/\bL w' E.base p (aH G r kind n t (l::s)).2 (m::R)/\KX E (fun g=>g=m) w w':=by
 obtain⟨k,x,a,z,mk,-,hx,-,-,-,hv⟩:=dR t A c;obtain⟨B,J⟩:∃B,w.alloc (.cells #[.int .i64 k,.string x,.int .i64 a,.int .i64 z,.slice A mk c] 24)=B:=⟨_,rfl⟩
 have K:Below w.heap.size w B:=by rw[<- J];exact ag _ _
 have C:aj B w.heap.size 24 #[.int .i64 k,.string x,.int .i64 a,.int .i64 z,.slice A mk c]:=by rw[<- J];exact aj.new w _ _
 have h1:=h.below K;have d:=hs.below K;have D:=K3 E.base x B (l::s) p (m::R) d;have f:=fun q=>qa (B.drewN q) E.g G.globals (bA.drewN h1.gl q) x
 have hbs1:E.base<=B.heap.size:=aac j K.size;have F:=fun q al=>BP E G r V (B.drewN q) (h1.below (aT (Below.refl _ _) q)) hN hP hbs1 kind n hn t A c al (fun _=>False)
 rw[hv]at F⊢;obtain⟨b,m0,p',ms0,hp,hms,hb0,hm0,hsb,hsm,hst⟩:=d;simp only[List.cons.injEq]at hms;obtain⟨rfl,rfl⟩:=hms;subst hp
 have v:aH G r kind n t (l::s)=if (fe (l::s) x).isSome || (bE G.globals x).isSome then(qF r 9 n t,l::s) else(lM r kind n t,dh l x (n:Int)::s):=by
  unfold aH;rw[hx];rfl
 rw[v];have hds:aW r kind n t true=qF r 9 n t:=rfl;have hdd:aW r kind n t false=lM r kind n t:=rfl;have c0:=h1.blk.cell 0;have hlr:=h1.blk.lt;have hx0:=C.cell 0;have hx1:=C.cell 1;have hx2:=C.cell 2;have hx3:=C.cell 3;have hx4:=C.cell 4;have hlt:=C.lt;generalize hfo:fe (l::s) x=fo at D⊢
 obtain⟨go,hgo⟩:∃q,bE G.globals x=q:=⟨_,rfl⟩
 rw[hgo]at f⊢;have H1:=kH h1;have pR:Hid (bL B E.base (some ⟨b,0,none⟩) (l::s) (m::R)):=kH ⟨b,m,p',R,rfl,rfl,hb0,hm0,hsb,hsm,hst⟩;have HT1:=kH C;have HB1:=kH K;have HF:=kH D;have S:=kH X;clear h hs v hfo hgo hx hv h1 C K hst D hsb hsm X
 have W:Hid (∀q H,(∃u,aX E G (qF r 9 n t) u H/\KX E (fun _=>False) (B.drewN q) H)->∃u,aX E G (qF r 9 n t) u H/\bL H E.base (some ⟨b,0,none⟩) (l::s) (m::R)/\KX E (fun g=>g=m) w H):=kH (by
  rintro q H ⟨V2,h2,k2⟩;have hd:Below B.heap.size B (B.drewN q):=aT (Below.refl _ _) q;have k1:KX E (fun _=>False) B H:=(KX.of_below (M:=fun _=>False) hd).trans k2 (fun g L=>L.elim)
  exact⟨V2,h2,bL.kx k1 H1.out.oO pR.out (fun _ _ h=>h),(KX.of_below HB1.out).trans k1 (fun g L=>L.elim)⟩)
 have Q:=fun q=>F q true
 have Yc:=fun q=>F q false
 rw[hds]at Q;rw[hdd]at Yc;simp only[Bool.not_true,Bool.not_false]at Q Yc;have HSD:=kH Q;have HDD:=kH Yc;clear Q Yc F
 cases fo with
 | some y=>
  simp only[Option.isSome_some,Bool.true_or,if_true]at HF⊢;go_in
  go_wp2_with (rw[J])
  refine HF.out.mono ?_;rintro e H ⟨rfl,N⟩;obtain rfl:B=H:=N.symm;go_wp2_with fail
  go_quiet (fail)
  go_wp2_with fail
  refine(HSD.out _).mono ?_;rintro e I ⟨rfl,T⟩;have HE:=kH (W.out _ I T);clear T;go_wp2_with fail
  go_end0
  exact⟨rfl,HE.out⟩
 | none=>
  cases go with
  | some y=>
   simp only[Option.isSome_some,Option.isSome_none,Bool.or_true,if_true]at HF f⊢;go_in
   go_wp2_with (rw[J])
   refine HF.out.mono ?_;rintro e H ⟨rfl,N⟩;obtain rfl:B=H:=N.symm;go_wp2_with fail
   go_quiet (fail)
   go_wp2_with fail
   refine(HSD.out _).mono ?_;rintro e I ⟨rfl,T⟩;have HE:=kH (W.out _ I T);clear T;go_wp2_with fail
   go_end0
   exact⟨rfl,HE.out⟩
  | none=>
   simp only[Option.isSome_none,Bool.or_false,Bool.false_eq_true,if_false]at HF f⊢;go_in
   go_wp2_with (rw[J])
   refine HF.out.mono ?_;rintro e H ⟨rfl,N⟩;obtain rfl:B=H:=N.symm;go_wp2_with fail
   go_quiet (fail)
   go_wp2_with fail
   refine(HDD.out _).mono ?_;rintro e I ⟨rfl,V3,T,k3⟩;have k1:KX E (fun _=>False) B I:=(KX.of_below (M:=fun _=>False) (aT (Below.refl B.heap.size B) _)).trans k3 (fun g L=>L.elim);have hs3:=bL.kx k1 H1.out.oO pR.out (fun _ _ h=>h);have jN:=k1.blk HT1.out (by decide) (by decide) (by decide) (H1.out.U4 HT1.out);have K1:=kH k1;have H3:=kH T;obtain⟨b2,m2,p2,xC,hp2,xM,hb2,hm2,XR,Y,Z⟩:=hs3;simp only[List.cons.injEq]at xM;obtain⟨rfl,rfl⟩:=xM;simp only[aag,Addr.mk.injEq,and_true]at hp2;subst hp2;have d1:=XR.cell 1;have e1:=jN.cell 1;have hl3:=XR.lt;have hl4:=jN.lt;have FQ:=kH XR;have qm:=kH Y;have HST:=kH Z;clear jN k1 k3 T XR Y Z;go_wp2_with fail
   refine eQ (fun w'=>w'.cell? ⟨b,1,none⟩=some (.map (some m))/\w'.cell? ⟨w.heap.size,1,none⟩=some (.string x)) [7] [true,true,true,true,true,true,true,false] (by kernel_rfl) (by kernel_rfl) rfl (by kernel_rfl) ?_;have hS0:I.drew.cell? ⟨b,1,none⟩=some (.map (some m))/\I.drew.cell? ⟨w.heap.size,1,none⟩=some (.string x):=⟨d1,e1⟩
   iterate 7(refine ic rfl hS0 (by intro w' hSw;obtain⟨d,hs2⟩:=hSw;go_simp;rfl) ?_;simp only[Act.put,sA,sZ,sC])
   obtain⟨w4,U,iD,hg4,hz4⟩:=fI (P:=Tryz.prog) (KK:=jo) (t:=70) (kt:=9) (et:=3) Tryz.underlying70 Tryz.underlying9 (qm.out.drew) x (.int .i64 (n:Int));change (Instr.mapUpdate 70 (.map (some m)) (Value.string x) (.int .i64 (n:Int))).run Tryz.prog I.drew=_ at U;have O:aF (fun g=>g=m) I w4:=((aF.refl (fun g=>g=m) I).drew).grown hg4 (fun k hk=>by cases hk;exact .inl rfl)
   have HE:Hid (∃u,aX E G (lM r kind n t) u w4/\bL w4 E.base (some ⟨b,0,none⟩) (dh l x (n:Int)::s) (m::R)/\KX E (fun g=>g=m) w w4):=kH (by
    rw[yD]at iD;have Sd:=qm.out.isMap;have XQ:=S.out.apart m (by simp);have hnd:=List.nodup_cons.1 S.out.nodup;have km:KX E (fun g=>g=m) I w4:=KX.oP O rfl hm2 Sd;refine⟨V3,H3.out.oP O XQ Sd,⟨b,m,p2,R,rfl,rfl,hb2,hm2,?_,iD,?_⟩,(KX.of_below HB1.out).trans ((K1.out.mono (M':=fun g=>g=m) (fun _ h=>h.elim)).trans km (fun g L=>.inl L)) (fun g L=>.inl L)⟩
    ·refine FQ.out.since O (fun e=>?_)
     obtain⟨es,ck,ho⟩:=Sd;subst e;have:I.heap[b]? =some (Obj.cells _ _ (0,0)):=FQ.out;rw[ho]at this;cases this
    ·exact bL.kx km H3.out.oO HST.out (fun g L e=>hnd.1 (by rw[<- e];exact L)))
   clear iD hg4 hz4 O;refine iU (w':=w4) rfl (by simp[execOp,Act.eval,U,Result.andThen]) (by simp) ?_;refine jm ?_;simp only[Act.put];go_wp2_with fail
   go_end0
   exact⟨rfl,HE.out⟩
theorem Pb(l:lH)(m:Nat)(x:ByteArray)(n:Nat)(w:World)(F:bA jo w m (jS l)):
 Calls Tryz.prog 144 #[.map (some m),.string x,.int .i64 (n:Int)] w fun e w'=>e= .returned (.tuple #[])/\bA jo w' m (jS (mr l x n))/\aF (fun g=>g=m) w w':=by
 have A:=qa w m l F x
 cases C:bE l x with
 | some k=>
  have D:mr l x n=l:=by unfold mr aU;rw[C];rfl
  rw[D];rw[C]at A;simp only[Option.getD_some,Option.isSome_some]at A;have I:=kH F;clear F D C;go_in
  go_wp2_with fail
  go_end0
  exact⟨rfl,I.out,aF.refl _ _⟩
 | none=>
  have D:mr l x n=dh l x (n:Int):=by unfold mr aU;rw[C];rfl
  rw[D];rw[C]at A;simp only[Option.getD_none,Option.isSome_none]at A;have I:=kH F;clear F D C;go_in
  obtain⟨N,G,B,E,J⟩:=fI (P:=Tryz.prog) (KK:=jo) (t:=70) (kt:=9) (et:=3) Tryz.underlying70 Tryz.underlying9 I.out x (.int .i64 (n:Int));change (Instr.mapUpdate 70 (.map (some m)) (Value.string x) (.int .i64 (n:Int))).run Tryz.prog w=_ at G;have H:aF (fun g=>g=m) w N:=(aF.refl (fun g=>g=m) w).grown E (fun k K=>by cases K;exact .inl rfl);rw[yD]at B;have L:=kH B;have M:=kH H;clear B E J H;go_wp2_with fail
  go_end0
  exact⟨rfl,L.out,M.out⟩
theorem FN:∀(a:List ae) (f:ae) (n:Nat) (l:lH),kr (a++[f]) n l=if f.kind=4 then mr (kr a n l) f.text ((n+aD a:Nat):Int) else kr a n l
 | [],f,n,l=>rfl
 | g::a,f,n,l=>by
  show kr (a++[f]) (n+ai g) _=_;rw[FN a,aD];show(if _ then mr (kr a (n+ai g) _) _ _ else kr a (n+ai g) _)=_;rw[show n+ai g+aD a=n+(ai g+aD a) by omega];rfl
theorem FM:∀(a:List ae) (k:ae) (n:Nat) (g:bC),ma (a++[k]) n g=⟨mr (ma a n g).globals k.text ((n+aD a:Nat):Int),kr k.kids (n+aD a+1) (ma a n g).fields,dh (ma a n g).kinds ((n+aD a:Nat):Int) k.kind⟩
 | [],k,n,g=>rfl
 | j::a,k,n,g=>by
  show ma (a++[k]) (n+ai j) _=_;rw[FM a,aD];rw[show n+ai j+aD a=n+(ai j+aD a) by omega];rfl
theorem zh{A:Type}{l:List A}{i:Nat}{x:A}(h:l[i]? =some x):l.take (i+1)=l.take i++[x]:=by
 rw[List.take_add_one,h];rfl
theorem QR(l:List (Int×Int))(x n:Int):p8 (vF l) x (.int .i64 n)=vF (dh l x n):=JV (Value.int .i64) x n l
structure CG (g f k:Nat) (G:bC) (w:World):Prop where
 gl:bA jo w g (jS G.globals)
 fl:bA jo w f (jS G.fields)
 kn:bA kX w k (vF G.kinds)
theorem CG.below{g f k:Nat}{G:bC}{w w':World}(h:CG g f k G w)(A:Below w.heap.size w w'):CG g f k G w':=⟨h.gl.JC A,h.fl.JC A,h.kn.JC A⟩
theorem aJ.since{w w':World}{B:Nat}{S:Nat->Prop}(E:aF S w w')(C:B<=w.heap.size)(D:∀g,S g->B<=g){ts:List ae}{A:Option Addr}{i:Nat}(h:aJ w B A i ts):aJ w' B A i ts:=
 aJ.below (E.toBelow C D) (aab _) _ _ _ h
theorem UF(d g f D B:Nat)(a3 a4 a5 a6 a7 a8:Value)(w:World)(hb:aj w d 75 #[.map (some g),.map (some f),.map (some D),a3,a4,a5,a6,a7,a8])(hG:CG g f D ⟨[],[],[]⟩ w)(hne:g≠f/\g≠D/\f≠D)(hB:B<=g/\B<=f/\B<=D/\B<=w.heap.size)
 (t:ae) (A:Option Addr) (c:Nat) (hm:ai t<=1000000000) (hk:aJ w B A 0 t.kids):
 Calls Tryz.prog 78 #[.pointer (some ⟨d,0,none⟩),aZ t A c] w fun e w'=>e= .returned (.tuple #[])/\CG g f D (dO t) w'/\aF (fun x=>x=g\/x=f\/x=D) w w':=by
 have hcm:dO t=ma t.kids 1 ⟨[],[],[]⟩:=rfl;have hce:=pO t;obtain⟨C,nY⟩:∃q,t.kids=q:=⟨_,rfl⟩
 obtain⟨k0,x0,a0,z0,n,-,-,-,-,hn,hv⟩:=dR t A c;rw[hv,hcm];rw[nY]at hk hn hce⊢;have hcl:=jO C;have hS:∀x,(x=g\/x=f\/x=D)->B<=x:=by intro x hx;omega
 have FQ:=kH hS;have PH:=kH hB;have HK:=kH hk;have HN:=kH hn;have HCE:=kH hce;have HM:Hid (1+aD C<=1000000000):=kH (by omega);have HG:=kH hG;have HB:=kH hb;have fH:=kH hne;have hnb:n<=1000000000:=by omega
 have hgl:=hb.lt;clear hk hce hm nY hn hcl hv hcm hS hB hG hb hne;go_in
 go_wp2_with fail
 generalize hW1:w.alloc (.cells #[.int .i64 k0,.string x0,.int .i64 a0,.int .i64 z0,.slice A n c] 24)=W1
 have hb1:Below w.heap.size w W1:=by rw[<- hW1];exact ag _ _
 have pR:Hid (aF (fun x=>x=g\/x=f\/x=D) w W1):=kH ((aF.refl _ w).below hb1);have HG1:=kH (HG.out.below hb1);clear hW1 hb1;go_loopg [4,14] n (fun gk s4 s14 wr=> ∃i:Nat,i+gk=n/\s4= .int .i64 ((1+aD (C.take i):Nat):Int)/\s14= .int .i64 (i:Int)/\Hid (CG g f D (ma (C.take i) 1 ⟨[],[],[]⟩) wr)/\Hid (aF (fun x=>x=g\/x=f\/x=D) w wr))
 case atStart=>exact⟨0,by omega,by simp[aD],rfl,HG1,pR⟩
 case round=>
  obtain⟨i,hi,rfl,rfl,HGr,VK⟩:=hrel;have HI:=kH hi;have hin:i<=n:=by omega
  clear hi;by_cases hlt:i<n
  ·have hlt':(i:Int)<(n:Int):=by omega
   obtain⟨u,hu⟩:∃u,C[i]? =some u:=⟨_,aaf (by rw[HN.out];exact hlt)⟩
   have E:Below B w wr:=VK.out.toBelow PH.out.2.2.2 FQ.out;obtain⟨vals,⟨b,y,hA,S,F⟩,hT⟩:=HK.out.get i u hu;obtain⟨A',c',jF,hK'⟩:=hT.five;subst hA;subst jF;have OP:=VK.out.size;have T:=PH.out.2.2.2;have hbb:b<wr.heap.size:=by omega
   obtain⟨uk,xJ⟩:∃q,u.kind=q:=⟨_,rfl⟩
   obtain⟨ux,xI⟩:∃q,u.text=q:=⟨_,rfl⟩
   obtain⟨ua,zX⟩:∃q,u.at_=q:=⟨_,rfl⟩
   obtain⟨uz,D9⟩:∃q,u.end_=q:=⟨_,rfl⟩
   obtain⟨I,NS⟩:∃q,u.kids=q:=⟨_,rfl⟩
   obtain⟨un,hun⟩:∃q,I.length=q:=⟨_,rfl⟩
   have m:wr.cell? ⟨b,y+i*5,none⟩=some (.int .i64 uk):=(E.cell (p:=⟨b,_,none⟩) S).trans (by rw[<- xJ];simpa using F 0 _ rfl);have t1:wr.cell? ⟨b,y+i*5+1,none⟩=some (.string ux):=(E.cell (p:=⟨b,_,none⟩) S).trans (by rw[<- xI];simpa using F 1 _ rfl);have t2:wr.cell? ⟨b,y+i*5+2,none⟩=some (.int .i64 ua):=(E.cell (p:=⟨b,_,none⟩) S).trans (by rw[<- zX];simpa using F 2 _ rfl);have t3:wr.cell? ⟨b,y+i*5+3,none⟩=some (.int .i64 uz):=(E.cell (p:=⟨b,_,none⟩) S).trans (by rw[<- D9];simpa using F 3 _ rfl);have t4:wr.cell? ⟨b,y+i*5+4,none⟩=some (.slice A' un c'):=(E.cell (p:=⟨b,_,none⟩) S).trans (by rw[<- hun,<- NS];simpa using F 4 _ rfl)
   have Wi:Hid (aj wr d 75 #[.map (some g),.map (some f),.map (some D),a3,a4,a5,a6,a7,a8]):=kH (HB.out.since VK.out (fun e=>by
    have G:w.heap[d]? =some (Obj.cells _ _ (0,0)):=HB.out;rcases e with e|e|e
    ·obtain⟨es,ck,l⟩:=HG.out.gl.isMap
     rw[<- e,G]at l;cases l
    ·obtain⟨es,ck,l⟩:=HG.out.fl.isMap
     rw[<- e,G]at l;cases l
    ·obtain⟨es,ck,l⟩:=HG.out.kn.isMap
     rw[<- e,G]at l;cases l))
   rw[NS]at hK';have HK':=kH hK';have HU0:=kH hu
   have Yd:∀Z,aF (fun x=>x=g\/x=f\/x=D) w Z->Calls Tryz.prog 77 #[aZ u A' c'] Z fun e w'=>e= .returned (.int .i64 (ai u:Int))/\Below Z.heap.size Z w':=fun Z hZ=>
    He u A' c' Z (by have G:=gD C i u HU0.out;have h2:=iZ C (i+1);have h3:=HM.out;omega) (aJ.mono (aac T hZ.size) _ _ _ (aJ.since hZ T FQ.out (by rw[NS];exact HK'.out)))
   unfold aZ at Yd;rw[xJ,xI,zX,D9,NS,hun]at Yd;have HCU:=kH Yd;clear Yd;have hgr:=Wi.out.lt;have d0:=Wi.out.cell 0;have d1:=Wi.out.cell 1;have d2:=Wi.out.cell 2;have HU:=kH hu;have HUN:=kH hun;clear F hT hK' hu E hun;go_wp2_with fail
   generalize hX:wr.alloc (.cells #[.int .i64 uk,.string ux,.int .i64 ua,.int .i64 uz,.slice A' un c'] 24)=X
   have hbX:Below wr.heap.size wr X:=by rw[<- hX];exact ag _ _
   have FE:aj X wr.heap.size 24 #[.int .i64 uk,.string ux,.int .i64 ua,.int .i64 uz,.slice A' un c']:=by rw[<- hX];exact aj.new wr _ _
   have Ca:Hid (aF (fun x=>x=g\/x=f\/x=D) w X):=kH (VK.out.below hbX);have Nt:=kH (HGr.out.below hbX);have hBX:=Wi.out.below hbX hgr;obtain⟨num,yL⟩:∃q,1+aD (C.take i)=q:=⟨_,rfl⟩
   rw[yL]at⊢;have Hy:=kH yL;obtain⟨N,hGi⟩:∃q,ma (C.take i) 1 ⟨[],[],[]⟩=q:=⟨_,rfl⟩
   rw[hGi]at Nt;have vC:=kH hGi
   have J:Hid (∀{r:Nat}{t:TypeId}{cs:Array Value}{x:Nat}{w':World},aj w' r t cs->(∃es ck,w'.heap[x]? =some (.map es ck))->r≠x):=kH (fun hb ⟨es,ck,l⟩ e=>by
    subst e;have G:_=some (Obj.cells _ _ (0,0)):=hb
    rw[l]at G;cases G)
   have Pt:=kH FE;have zK:=kH hBX
   have rz:∀W':World,aF (fun x=>x=g) X W'->W'.cell? ⟨d,0,none⟩=some (.map (some g))/\W'.cell? ⟨wr.heap.size,1,none⟩=some (.string ux):=fun W' hs=>by
    have G:=zK.out.since hs (fun e=>J.out zK.out Nt.out.gl.isMap e);have h2:=Pt.out.since hs (fun e=>J.out Pt.out Nt.out.gl.isMap e);exact⟨G.cell 0,h2.cell 1⟩
   have TM:=kH rz;have hlX:=FE.lt;have hrX:=hBX.lt;have e0:=hBX.cell 0;have e1:=FE.cell 1;have W:aF (fun x=>x=g) X X.drew:=(aF.refl _ X).drew;clear hX hbX FE hBX yL hGi Wi d0 d1 d2 m t1 t2 t3 t4 rz VK HGr;go_region_held3 (fun w'=>w'.cell? ⟨d,0,none⟩=some (.map (some g))/\w'.cell? ⟨wr.heap.size,1,none⟩=some (.string ux)) (exact TM.out _ (by assumption)) ((go_at_call 144;refine(Pb N.globals g ux num X.drew (bA.drew Nt.out.gl)).mono ?_;rintro e w2 ⟨rfl,hm2,hs2⟩;have L:=W.trans hs2))
   have hG2:CG g f D ⟨mr N.globals ux num,N.fields,N.kinds⟩ w2:=⟨hm2,Nt.out.fl.since L (fun e=>fH.out.1 e.symm),Nt.out.kn.since L (fun e=>fH.out.2.1 e.symm)⟩
   have hB2:=zK.out.since L (fun e=>J.out zK.out Nt.out.gl.isMap e);have mV:=Pt.out.since L (fun e=>J.out Pt.out Nt.out.gl.isMap e);have HS2:Hid (aF (fun x=>x=g\/x=f\/x=D) w w2):=kH (Ca.out.step L (fun x e=>.inl (.inl e)));have HZ2:Hid (wr.heap.size<w2.heap.size/\w.heap.size<=wr.heap.size):=kH ⟨mV.lt,OP⟩;have K:=kH hG2;have HB2:=kH hB2;have HT2:=kH mV;have e2:=hB2.cell 2;have m:=mV.cell 0;have hl2:=mV.lt;have hr2:=hB2.lt;clear L hs2 W hm2 hG2 hB2 mV Nt Ca Pt zK TM hlX hrX e0 e1;go_wp2_with fail
   refine eQ (fun w'=>w'.cell? ⟨d,2,none⟩=some (.map (some D))/\w'.cell? ⟨wr.heap.size,0,none⟩=some (.int .i64 uk)) [7] [true,true,true,true,true,true,true,false] (by kernel_rfl) (by kernel_rfl) rfl (by kernel_rfl) ?_;have hS0:w2.drew.cell? ⟨d,2,none⟩=some (.map (some D))/\w2.drew.cell? ⟨wr.heap.size,0,none⟩=some (.int .i64 uk):=⟨e2,m⟩
   iterate 7(refine ic rfl hS0 (by intro w' hSw;obtain⟨hs1,hs2⟩:=hSw;go_simp;rfl) ?_;simp only[Act.put,sA,sZ,sC])
   obtain⟨w4,V,iD,hg4,hz4⟩:=fI (P:=Tryz.prog) (KK:=kX) (t:=71) (kt:=3) (et:=3) Tryz.underlying71 Tryz.underlying3 (bA.drew K.out.kn) (num:Int) (.int .i64 uk);change (Instr.mapUpdate 71 (.map (some D)) (Value.int .i64 (num:Int)) (.int .i64 uk)).run Tryz.prog w2.drew=_ at V;have M:aF (fun g=>g=D) w2 w4:=((aF.refl (fun g=>g=D) w2).drew).grown hg4 (fun k hk=>by cases hk;exact .inl rfl);rw[QR]at iD;have hG4:CG g f D ⟨mr N.globals ux num,N.fields,dh N.kinds (num:Int) uk⟩ w4:=⟨K.out.gl.since M (fun e=>fH.out.2.1 e),K.out.fl.since M (fun e=>fH.out.2.2 e),iD⟩
   have hB4:=HB2.out.since M (fun e=>J.out HB2.out K.out.kn.isMap e);have kZ:=HT2.out.since M (fun e=>J.out HT2.out K.out.kn.isMap e);have TN:Hid (aF (fun x=>x=g\/x=f\/x=D) w w4):=kH (HS2.out.step M (fun x e=>.inl (.inr (.inr e))));have HZ4:Hid (wr.heap.size<w4.heap.size/\w.heap.size<=wr.heap.size):=kH ⟨kZ.lt,HZ2.out.2⟩;have PG:=kH hG4;have oN:=kH hB4;have HT4:=kH kZ;have f4:=kZ.cell 4;have hl4:=kZ.lt;refine iU (w':=w4) rfl (by simp[execOp,Act.eval,V,Result.andThen]) (by simp) ?_;refine jm ?_;simp only[Act.put];obtain⟨VB,U⟩:∃q,N.fields=q:=⟨_,rfl⟩
   rw[U]at PG;have Nv:=kH U;have NT:(num:Int)<=1000000000:=by have:=iZ C i;have:=Hy.out;have:=HM.out;omega
   have hwn:IntKind.i64.wrap ((num:Int)+1)=(num:Int)+1:=IntWalk.i64_in _ (by omega)
   have HUC:Hid (1+aD I=ai u/\num+ai u<=1000000000):=kH (by
    have G:=pO u;have h2:=gD C i u HU.out;have h3:=iZ C (i+1);have h4:=Hy.out;have h5:=HM.out;rw[NS]at G
    exact⟨by omega,by omega⟩)
   have hub:un<=1000000000:=by have:=HUC.out;have:=jO I;have:=HUN.out;omega
   clear M hG4 hB4 kZ iD hg4 hz4 V K HB2 HT2 HS2 HZ2 e2 m hl2 hr2 U;go_wp2_with fail
   obtain⟨wo,hwo⟩:∃wo:World,wo=wr:=⟨_,rfl⟩
   subst hwo;obtain⟨go,hgo⟩:∃go:Nat,go=gk:=⟨_,rfl⟩
   subst hgo;go_loopg [8,39] un (fun gk s8 s39 wr=> ∃j:Nat,j+gk=un/\s8= .int .i64 ((num+1+aD (I.take j):Nat):Int)/\s39= .int .i64 (j:Int)/\Hid (CG g f D ⟨mr N.globals ux num,kr (I.take j) (num+1) VB,dh N.kinds (num:Int) uk⟩ wr)/\Hid (aF (fun x=>x=g\/x=f\/x=D) w4 wr))
   case atStart=>exact⟨0,by omega,by simp[aD],rfl,PG,kH (aF.refl _ _)⟩
   case round=>
    obtain⟨j,hj,rfl,rfl,HGj,Pv⟩:=hrel;have HJ:=kH hj;have hjn:j<=un:=by omega
    have O:Hid (aF (fun x=>x=g\/x=f\/x=D) w wr):=kH (TN.out.trans Pv.out)
    have H:=HT4.out.since Pv.out (fun e=>by
     rcases e with e|e|e
     ·exact J.out HT4.out PG.out.gl.isMap e
     ·exact J.out HT4.out PG.out.fl.isMap e
     ·exact J.out HT4.out PG.out.kn.isMap e)
    have hBj:=oN.out.since Pv.out (fun e=>by
     rcases e with e|e|e
     ·exact J.out oN.out PG.out.gl.isMap e
     ·exact J.out oN.out PG.out.fl.isMap e
     ·exact J.out oN.out PG.out.kn.isMap e)
    clear hj;by_cases hjt:j<un
    ·have hjt':(j:Int)<(un:Int):=by omega
     obtain⟨v,hv⟩:∃v,I[j]? =some v:=⟨_,aaf (by rw[HUN.out];exact hjt)⟩
     have E:Below B w wr:=O.out.toBelow PH.out.2.2.2 FQ.out;obtain⟨vals,⟨R,ob,hA2,Sz,F⟩,mV⟩:=HK'.out.get j v hv;obtain⟨A2,c2,jF,hK2⟩:=mV.five;subst hA2;subst jF;have hzj:=O.out.size;have T:=PH.out.2.2.2;have KN:R<wr.heap.size:=by omega
     have Qi:∀Z,aF (fun x=>x=g\/x=f\/x=D) w Z->Calls Tryz.prog 77 #[aZ v A2 c2] Z fun e w'=>e= .returned (.int .i64 (ai v:Int))/\Below Z.heap.size Z w':=fun Z hZ=>
      He v A2 c2 Z (by have G:=gD I j v hv;have h2:=iZ I (j+1);have h3:=HUC.out;omega) (aJ.mono (aac T hZ.size) _ _ _ (aJ.since hZ T FQ.out hK2))
     unfold aZ at Qi;obtain⟨vk,hvk⟩:∃q,v.kind=q:=⟨_,rfl⟩
     obtain⟨vx,Jp⟩:∃q,v.text=q:=⟨_,rfl⟩
     obtain⟨va,hva⟩:∃q,v.at_=q:=⟨_,rfl⟩
     obtain⟨vz,hvz⟩:∃q,v.end_=q:=⟨_,rfl⟩
     obtain⟨vn,nC⟩:∃q,v.kids.length=q:=⟨_,rfl⟩
     obtain⟨cv,hcv⟩:∃q,ai v=q:=⟨_,rfl⟩
     rw[hvk,Jp,hva,hvz,nC,hcv]at Qi;have m:wr.cell? ⟨R,ob+j*5,none⟩=some (.int .i64 vk):=(E.cell (p:=⟨R,_,none⟩) Sz).trans (by rw[<- hvk];simpa using F 0 _ rfl);have t1:wr.cell? ⟨R,ob+j*5+1,none⟩=some (.string vx):=(E.cell (p:=⟨R,_,none⟩) Sz).trans (by rw[<- Jp];simpa using F 1 _ rfl);have t2:wr.cell? ⟨R,ob+j*5+2,none⟩=some (.int .i64 va):=(E.cell (p:=⟨R,_,none⟩) Sz).trans (by rw[<- hva];simpa using F 2 _ rfl);have t3:wr.cell? ⟨R,ob+j*5+3,none⟩=some (.int .i64 vz):=(E.cell (p:=⟨R,_,none⟩) Sz).trans (by rw[<- hvz];simpa using F 3 _ rfl);have t4:wr.cell? ⟨R,ob+j*5+4,none⟩=some (.slice A2 vn c2):=(E.cell (p:=⟨R,_,none⟩) Sz).trans (by rw[<- nC];simpa using F 4 _ rfl);obtain⟨at_,hat⟩:∃q,num+1+aD (I.take j)=q:=⟨_,rfl⟩
     have hsum:at_+cv<=1000000000:=by have G:=gD I j v hv;have h2:=iZ I (j+1);have h3:=HUC.out;omega
     have hws:IntKind.i64.wrap ((at_:Int)+(cv:Int))=(at_:Int)+(cv:Int):=IntWalk.i64_in _ (by omega);have hwj:IntKind.i64.wrap ((j:Int)+1)=(j:Int)+1:=IntWalk.i64_in _ (by omega);have hnxt:((at_:Int)+(cv:Int))=((num+1+aD (I.take (j+1)):Nat):Int):=by have G:=gD I j v hv;omega
     have hcF:kr (I.take (j+1)) (num+1) VB=if vk=4 then mr (kr (I.take j) (num+1) VB) vx (at_:Int) else kr (I.take j) (num+1) VB:=by
      rw[zh hv,FN,hvk,Jp,hat]
     rw[hat];have HCF:=kH hcF;have bG:=kH hnxt;have HCV:=kH Qi;have hTj1:=H.lt;have hrj:=hBj.lt;have HTj:=kH H;have HBj:=kH hBj;clear F mV hK2 hv E hcF hnxt Qi hvk Jp hva hvz nC hcv hat H hBj;by_cases hv4:vk=4
     ·subst hv4
      rw[if_pos rfl]at HCF;go_wp2_with fail
      generalize hY:wr.alloc (.cells #[.int .i64 4,.string vx,.int .i64 va,.int .i64 vz,.slice A2 vn c2] 24)=Y
      have hbY:Below wr.heap.size wr Y:=by rw[<- hY];exact ag _ _
      have hTY:aj Y wr.heap.size 24 #[.int .i64 4,.string vx,.int .i64 va,.int .i64 vz,.slice A2 vn c2]:=by rw[<- hY];exact aj.new wr _ _
      have VM:Hid (aF (fun x=>x=g\/x=f\/x=D) w4 Y):=kH (Pv.out.below hbY);have TZ:=kH (HGj.out.below hbY);have hBY:=HBj.out.below hbY hrj;have Q:=kH hTY;have PI:=kH hBY
      have rz:∀W':World,aF (fun x=>x=f) Y W'->W'.cell? ⟨d,1,none⟩=some (.map (some f))/\W'.cell? ⟨wr.heap.size,1,none⟩=some (.string vx):=fun W' hs=>by
       have G:=PI.out.since hs (fun e=>J.out PI.out TZ.out.fl.isMap e);have h2:=Q.out.since hs (fun e=>J.out Q.out TZ.out.fl.isMap e);exact⟨G.cell 1,h2.cell 1⟩
      have TM:=kH rz;have hlY:=hTY.lt;have hrY:=hBY.lt;have e0:=hBY.cell 1;have e1:=hTY.cell 1;have W:aF (fun x=>x=f) Y Y.drew:=(aF.refl _ Y).drew;clear hY hbY hTY hBY rz m t1 t2 t3 t4;go_region_held3 (fun w'=>w'.cell? ⟨d,1,none⟩=some (.map (some f))/\w'.cell? ⟨wr.heap.size,1,none⟩=some (.string vx)) (exact TM.out _ (by assumption)) ((go_at_call 144;refine(Pb (kr (I.take j) (num+1) VB) f vx at_ Y.drew (bA.drew TZ.out.fl)).mono ?_;rintro e w6 ⟨rfl,gU,hs6⟩;have z:=W.trans hs6))
      have hG6:CG g f D ⟨mr N.globals ux num,mr (kr (I.take j) (num+1) VB) vx (at_:Int),dh N.kinds (num:Int) uk⟩ w6:=⟨TZ.out.gl.since z (fun e=>fH.out.1 e),gU,TZ.out.kn.since z (fun e=>fH.out.2.2 e.symm)⟩
      have ry:=Q.out.since z (fun e=>J.out Q.out TZ.out.fl.isMap e);have HSX6:Hid (aF (fun x=>x=g\/x=f\/x=D) w4 w6):=kH (VM.out.step z (fun x e=>.inl (.inr (.inl e))));have m:=ry.cell 0;have t1:=ry.cell 1;have t2:=ry.cell 2;have t3:=ry.cell 3;have t4:=ry.cell 4;have zZ:=ry.lt;have HG6:=kH hG6;clear z hs6 W gU hG6 ry TZ VM Q PI TM hlY hrY e0 e1;go_wp2_with fail
      refine(HCV.out w6 (TN.out.trans HSX6.out)).mono ?_;rintro e w7 ⟨rfl,dF⟩;have gK:=kH dF;clear dF m t1 t2 t3 t4;go_wp2_with fail
      go_roundg (gk - 1)
      case measure=>have:=HJ.out;omega
      case rel=>exact⟨j+1,by have:=HJ.out;omega,by rw[bG.out],by simp,kH (by rw[HCF.out];exact HG6.out.below gK.out),kH (HSX6.out.below gK.out)⟩
     ·rw[if_neg hv4]at HCF
      go_wp2_with fail
      refine(HCV.out _ (O.out.below (ag _ _))).mono ?_;rintro e w7 ⟨rfl,dF⟩;have gK:Hid (Below wr.heap.size wr w7):=kH ((ag _ _).trans (dF.mono (by simp)));clear dF m t1 t2 t3 t4;go_wp2_with fail
      go_roundg (gk - 1)
      case measure=>have:=HJ.out;omega
      case rel=>exact⟨j+1,by have:=HJ.out;omega,by rw[bG.out],by simp,kH (by rw[HCF.out];exact HGj.out.below gK.out),kH (Pv.out.below gK.out)⟩
    ·have OX:j=un:=by omega
     have m:=H.cell 0;have t1:=H.cell 1;have t2:=H.cell 2;have t3:=H.cell 3;have t4:=H.cell 4;have Ve:=H.lt
     have HGE:Hid (CG g f D (ma (C.take (i+1)) 1 ⟨[],[],[]⟩) wr):=kH (by
      have G:=HGj.out;rw[OX,<- HUN.out,List.take_length]at G;rw[zh HU.out,FM,vC.out,Hy.out,xI,NS,xJ,Nv.out]
      exact G)
     have bG:Hid (((num:Int)+(ai u:Int))=((1+aD (C.take (i+1)):Nat):Int)):=kH (by
      have G:=gD C i u HU.out;have h2:=Hy.out
      omega)
     have mi:=HCU.out wr O.out;obtain⟨cu,hcu2⟩:∃q,ai u=q:=⟨_,rfl⟩
     rw[hcu2]at mi bG;have hsum:num+cu<=1000000000:=by have:=HUC.out;omega
     have hws:IntKind.i64.wrap ((num:Int)+(cu:Int))=(num:Int)+(cu:Int):=IntWalk.i64_in _ (by omega);have hwi:IntKind.i64.wrap ((i:Int)+1)=(i:Int)+1:=IntWalk.i64_in _ (by omega);have HC:=kH mi;clear H hBj mi hcu2 OX;go_wp2_with fail
     refine HC.out.mono ?_;rintro e w7 ⟨rfl,dF⟩;have gK:=kH dF;clear dF m t1 t2 t3 t4;go_wp2_with fail
     go_roundg (go - 1)
     case measure=>have:=HI.out;omega
     case rel=>exact⟨i+1,by have:=HI.out;omega,by rw[bG.out],by simp,kH (HGE.out.below gK.out),kH (O.out.below gK.out)⟩
  ·have hie:i=n:=by omega
   have HGE:Hid (CG g f D (ma C 1 ⟨[],[],[]⟩) wr):=kH (by
    have G:=HGr.out;rw[hie,<- HN.out,List.take_length]at G
    exact G)
   clear hie;go_wp2_with fail
   go_end0
   exact⟨rfl,HGE.out,VK.out⟩
def gF(E:RC)(G:bC)(B:Nat)(t:ae):Prop:=
 ∀(i:Bool) (s:aS) (p:Option Addr) (ms:List Nat) (r:RS) (V:RV) (w:World) (A:Option Addr) (c:Nat),
  aX E G r V w->bL w E.base p s ms->Eh E ms->aJ w B A 0 t.kids->t.kids.length<=c->E.base<=w.heap.size->qA s.isEmpty t=true->RB r s (ai t) ->
  Calls Tryz.prog 79 #[.pointer (some ⟨E.rp,0,none⟩),aZ t A c,.pointer p,.bool i] w fun e w'=>e= .returned (.tuple #[])/\∃V',aX E G (aM G i t s r).1 V' w'/\bL w' E.base p (aM G i t s r).2 ms/\KX E (fun g=>g=E.vi\/ms.head? =some g) w w'
theorem Di{A:Type}{a b:List A}(h:a.length=b.length):a.isEmpty=b.isEmpty:=by
 cases a<;>cases b<;>first|rfl|cases h
theorem PR{P:Program}(w:World)(t e:TypeId)(i:TypeInfo)(G:P.underlying t=some (.slice e))(F:P.info? e=some i)(a:Option Addr)(C A lo B:Nat)(D:lo<=B)(E:B<=A):
 (Instr.slice t (.slice a C A) (some (.int .i64 (lo:Int))) (some (.int .i64 (B:Int))) none).run P w= .ok (.slice (if A=lo then a else a.map (·.add (lo*i.size))) (B - lo) (A - lo)) w:=by
 simp[Instr.slice,run_underlying G,Instr.sliceBounds,Instr.sliceBound,asIntOf,sizeOf,typeInfo,F];rw[if_pos E,if_pos D]
theorem aX.Zn{E:RC}{G:bC}{r:RS}{V:RV}{w:World}(h:aX E G r V w){g:Nat}{C:Array Value}(D:aj w g 68 C):E.uA.map (·.block)≠some g:=by
 intro A
 have F:(Value.slice E.uA r.uses.length E.uc).ownBlock=some g:=by
  cases B:E.uA with
  | none=>rw[B]at A;cases A
  | some p=>rw[B]at A;simpa [Value.ownBlock] using A
 exact h.us.cB D (by decide) F
theorem RF(E:RC)(G:bC)(B:Nat)(hB:B<=E.base)(C:List ae)(hih:∀k∈C,gF E G B k)(i:Bool)(s:aS)(p:Option Addr)(S:List Nat)(r:RS)(V:RV)(w:World)
 (k0:Int) (x0:ByteArray) (a0 z0:Int) (A:Option Addr) (t c f n Oo bn br:Nat) (hnk:C.length=t) (hto:Oo=f+n) (h:aX E G r V w) (hs:bL w E.base p s S) (hsep:Eh E S) (hk:aJ w B A 0 C) (T:t<=c) (hfn:f+n<=t) (N:E.base<=w.heap.size)
 (Q:aj w bn 24 #[.int .i64 k0,.string x0,.int .i64 a0,.int .i64 z0,.slice A t c]) (hbr:aj w br 68 #[.pointer (some ⟨E.rp,0,none⟩)]) (hv:mG s.isEmpty C=true) (R:RB r s (aD ((C.drop f).take n))):
 Calls Tryz.prog 146 #[.int .i64 (f:Int),.int .i64 (Oo:Int),.pointer p,.bool i,.pointer (some ⟨bn,0,none⟩),.pointer (some ⟨br,0,none⟩)] w fun e w'=>e= .returned (.tuple #[])/\∃V',aX E G (ah G i C f n s r).1 V' w'/\bL w' E.base p (ah G i C f n s r).2 S/\KX E (fun g=>g=E.vi\/S.head? =some g) w w':=by
 obtain⟨i0,hi0,hz0,hz1,hz2⟩:=info_parts sF;have y:=PR (P:=Tryz.prog) w 22 24 i0 Tryz.underlying22 hi0 A t c f Oo (by omega) (by omega);rw[hz1,show Oo - f=n by omega]at y;obtain⟨A1,L⟩:∃A1,(if c=f then A else A.map (·.add (f*5)))=A1:=⟨_,rfl⟩
 rw[L]at y;obtain⟨c1,hc1⟩:∃q,c - f=q:=⟨_,rfl⟩
 rw[hc1]at y
 have hnm:n<=1000000:=by
  have h1:=R.room;have h2:=R.most;have h3:=jO ((C.drop f).take n);simp at h3;omega
 have b4:=Q.cell 4;have lb:=Q.lt;have HA1:=kH L;have fE:=kH hih;have H:=kH h;have HS:=kH hs;have HK:=kH hk;have Ny:=kH Q;have qE:=kH hbr;have HV:=kH hv;have dS:=kH R;have fK:=kH hnk;have Y:Hid (f+n<=t/\t<=c/\B<=E.base/\E.base<=w.heap.size):=kH ⟨hfn,T,hB,N⟩;clear L hih h hs hk Q hbr hv R hnk hto T hfn hB N hc1 hi0 hz0 hz1 hz2;go_in
 go_wp2_with fail
 go_loopg [18] n (fun gk s18 wr=> ∃(j:Nat) (Vj:RV),j+gk=n/\s18= .int .i64 (j:Int)/\Hid (aX E G (ah G i C f j s r).1 Vj wr)/\Hid (bL wr E.base p (ah G i C f j s r).2 S)/\Hid (KX E (fun g=>g=E.vi\/S.head? =some g) w wr))
 case atStart=>exact⟨0,V,by omega,rfl,by rw[IX];exact H,by rw[IX];exact HS,kH (KX.refl _ _ _)⟩
 case round=>
  obtain⟨j,Vj,hj,rfl,Hj,Pv,K⟩:=hrel;have HJ:=kH hj;have hjn:j<=n:=by omega
  clear hj;by_cases hlt:j<n
  ·have hlt':(j:Int)<(n:Int):=by omega
   obtain⟨u,hu⟩:∃u,C[f+j]? =some u:=⟨_,aaf (by rw[fK.out];have:=Y.out;omega)⟩
   have hbW:Below E.base w wr:=K.out.low Y.out.2.2.2;have hkr:aJ wr B A 0 C:=aJ.below (hbW.mono Y.out.2.2.1) (aab _) _ _ _ HK.out;obtain⟨vals,⟨b,I,hA,hbl,hcs⟩,hT⟩:=hkr.get (f+j) u hu;obtain⟨m,l,jF,d⟩:=hT.five;subst hA;subst jF;have mi:=hT.cap;have hsz:=K.out.size
   have L:A1=some ⟨b,I+f*5,none⟩:=by
    rw[<- HA1.out,if_neg (by have:=Y.out;omega)];simp[Addr.add_lit]
   subst L;have hbb:b<wr.heap.size:=by have:=Y.out;omega
   obtain⟨uk,xJ⟩:∃q,u.kind=q:=⟨_,rfl⟩
   obtain⟨ux,xI⟩:∃q,u.text=q:=⟨_,rfl⟩
   obtain⟨ua,zX⟩:∃q,u.at_=q:=⟨_,rfl⟩
   obtain⟨uz,D9⟩:∃q,u.end_=q:=⟨_,rfl⟩
   obtain⟨un,x⟩:∃q,u.kids.length=q:=⟨_,rfl⟩
   have D:∀q v,[Value.int .i64 uk,.string ux,.int .i64 ua,.int .i64 uz,.slice m un l][q]? =some v->wr.cell? ⟨b,I+f*5+j*5+q,none⟩=some v:=fun q v hq=>by
    have:=hcs q v (by rw[xJ,xI,zX,D9,x];exact hq);rw[show I+(0+(f+j))*5+q=I+f*5+j*5+q by omega]at this;exact this
   have t0:wr.cell? ⟨b,I+f*5+j*5,none⟩=some (.int .i64 uk):=by simpa using D 0 _ rfl
   have t1:wr.cell? ⟨b,I+f*5+j*5+1,none⟩=some (.string ux):=by simpa using D 1 _ rfl
   have t2:wr.cell? ⟨b,I+f*5+j*5+2,none⟩=some (.int .i64 ua):=by simpa using D 2 _ rfl
   have t3:wr.cell? ⟨b,I+f*5+j*5+3,none⟩=some (.int .i64 uz):=by simpa using D 3 _ rfl
   have t4:wr.cell? ⟨b,I+f*5+j*5+4,none⟩=some (.slice m un l):=by simpa using D 4 _ rfl
   have z:=K.out.blk qE.out (by decide) (by decide) (by decide) (H.out.Zn qE.out);have O:u∈C:=aan hu
   have U:RB (ah G i C f j s r).1 (ah G i C f j s r).2 (ai u):=by
    refine dS.out.slow (yU G C i f j s r) (je G C i f j s r) ?_;have h1:=rq G C i f j s r;have h2:((C.drop f).take n)[j]? =some u:=by rw[List.getElem?_take_of_lt hlt,List.getElem?_drop];exact hu
    have h3:=gD _ j u h2;have h4:=iZ ((C.drop f).take n) (j+1);have e:((C.drop f).take n).take j=(C.drop f).take j:=by rw[List.take_take,Nat.min_eq_left hjn]
    rw[e]at h3;omega
   have hvj:qA (ah G i C f j s r).2.isEmpty u=true:=by
    rw[Di (kF G C i f j s r)];exact VOks_mem HV.out u O
   obtain⟨X,hX⟩:∃X,wr.alloc (.cells #[.int .i64 uk,.string ux,.int .i64 ua,.int .i64 uz,.slice m un l] 24)=X:=⟨_,rfl⟩
   have J:Below wr.heap.size wr X:=by rw[<- hX];exact ag _ _
   have F:=fE.out u O i (ah G i C f j s r).2 p S (ah G i C f j s r).1 Vj X m l (Hj.out.below J) (Pv.out.below J) hsep (aJ.below J (by have:=Y.out;omega) _ _ _ d) mi (by have:=Y.out;have:=J.size;omega) hvj U;unfold aZ at F;rw[xJ,xI,zX,D9,x,<- CW G i C f j s r u hu]at F;have HC:=kH F;have zK:=kH J;have W:aj X wr.heap.size 24 #[.int .i64 uk,.string ux,.int .i64 ua,.int .i64 uz,.slice m un l]:=by rw[<- hX];exact aj.new wr _ _
   have Z:=z.below J z.lt;have r0:=Z.cell 0;have lr:=Z.lt;have y0:=W.cell 0;have y1:=W.cell 1;have y2:=W.cell 2;have y3:=W.cell 3;have y4:=W.cell 4;have ly:=W.lt;have hwj:IntKind.i64.wrap ((j:Int)+1)=(j:Int)+1:=IntWalk.i64_in _ (by omega);clear hcs D hT d hkr hbW hu F J U hvj O xJ xI zX D9 x mi z W Z;go_wp2_with (rw[hX])
   refine HC.out.mono ?_;rintro e w5 ⟨rfl,V5,h5,s5,k5⟩;have H5:=kH h5;have S5:=kH s5;have K5:Hid (KX E (fun g=>g=E.vi\/S.head? =some g) w w5):=kH (K.out.trans ((KX.of_below (M:=fun g=>g=E.vi\/S.head? =some g) zK.out).trans k5 (fun g hg=>.inl hg)) (fun g hg=>.inl hg));clear h5 s5 k5 t0 t1 t2 t3 t4 r0 y0 y1 y2 y3 y4 lr ly;go_wp2_with fail
   go_roundg (gk - 1)
   case measure=>have:=HJ.out;omega
   case rel=>exact⟨j+1,V5,by have:=HJ.out;omega,by simp,H5,S5,K5⟩
  ·have OX:j=n:=by omega
   subst OX;go_wp2_with fail
   go_end0
   exact⟨rfl,Vj,Hj.out,Pv.out,K.out⟩
end Go.Proofs.YtoepemlnlpamlaaGreat
