/- Collect agrees with the reference. Part 14: Typ6 ShpC ShpD ShpE Typ7. -/
import Derived.Test.YtoepemlnlpamlaaGreatColl12
set_option maxRecDepth 100000
set_option maxHeartbeats 4000000
namespace Go.Proofs.YtoepemlnlpamlaaGreat
open Go.RowKit
theorem Rh:(Tryz.prog.info? 168).map (fun i=>(i.zero,i.size,i.bytes))=some (some (.agg #[.string ⟨#[]⟩,.int .i64 0,.int .i64 0,.string ⟨#[]⟩]),4,48):=by kernel_rfl
theorem Qc:(Tryz.prog.info? 164).map (fun i=>(i.zero,i.size,i.bytes))=some (some (.agg #[.string ⟨#[]⟩,.slice none 0 0]),2,40):=by kernel_rfl
theorem FH{ks:List ae}{i:Nat}{z:ae}(h:ks[i]? =some z):jc (ks.take (i+1))=jc (ks.take i)++(if z.kind=3 then [z.text] else []):=by
 unfold jc;rw[JE h,List.filter_append,List.map_append];by_cases A:z.kind=3<;>simp[A]
theorem wI(ks:List ae)(i:Nat):(jc (ks.take i)).length<=i:=by
 unfold jc;rw[List.length_map];exact aca (List.length_filter_le _ _) (by rw[List.length_take];omega)
theorem jI.nil(w:World)(B:Nat):jI w B none 0 []:=⟨[],fun k c h=>by simp at h,rfl,rfl,by omega⟩
theorem KL{t z:ae}(C:dC t=true)(I:z∈t.kids)(K:z.kind=3):∀f∈z.kids,f.kids.length=1:=by
 unfold dC at C;rw[acb]at C;have G:=fU C.2 z I;obtain⟨-,B⟩:=tT (t:=t) (by unfold dC;rw[acb];exact C);have F:=B z I;intro f H;have A:=fU G f H;obtain⟨c,x,a,e,J⟩:=z;have M:c=3:=K;subst M;unfold qd at F;simp only[Bool.or_eq_true,acb,decide_eq_true_eq]at F
 have L:f.kind=4:=by
  rcases F with⟨-,D⟩| ⟨⟨h,-⟩,-⟩
  ·have:=List.all_eq_true.1 D f H
   simp only[acb,decide_eq_true_eq]at this;exact this.1
  omega
 have E:dJ f=true:=by
  rw[iZ,acb]at A;exact A.1
 rw[gV (sh:=⟨bO,[bA [9]],none,0⟩) E (by rw[L];rfl) rfl];rfl
theorem Ar(w:World)(g:Nat)(B:TypeId)(l:List Value)(h:ah w g B l.toArray):∀j v,l[j]? =some v->w.cell? ((⟨g,0,none⟩:Addr).add j)=some v:=fun j v A=>by
 rw[Addr.add_lit,Nat.zero_add,h.cell];simpa using A
theorem vC{w:World}{B:Nat}{A:Option Addr}{N:List ae}(J:aD w B A 0 N){i:Nat}{t:ae}(K:N[i]? =some t):
 ∃D E T c,A=some ⟨D,E,none⟩/\D<B/\w.cell? ⟨D,E+i*5,none⟩=some (.int .i64 t.kind)/\w.cell? ⟨D,E+i*5+1,none⟩=some (.string t.text)/\w.cell? ⟨D,E+i*5+2,none⟩=some (.int .i64 t.at_)/\w.cell? ⟨D,E+i*5+3,none⟩=some (.int .i64 t.end_)/\w.cell? ⟨D,E+i*5+4,none⟩=some (.slice T t.kids.length c)/\aD w B T 0 t.kids:=by
 obtain⟨vals,⟨D,E,H,F,C⟩,I⟩:=J.get i t K;obtain⟨T,c,rfl,G⟩:=I.five;exact⟨D,E,T,c,H,F,by simpa using C 0 _ rfl,by simpa using C 1 _ rfl,by simpa using C 2 _ rfl,by simpa using C 3 _ rfl,by simpa using C 4 _ rfl,G⟩
theorem Pt(t:ae)(A:Option Addr)(c:Nat)(w:World)(hm:aB t<=1000000)(hk:aD w w.heap.size A 0 t.kids)(hv:dC t=true):
 Calls Tryz.prog 60 #[aO t A c] w fun e w'=> ∃S n c',e= .returned (.slice S n c')/\jI w' w'.heap.size S n (jc t.kids)/\Below w.heap.size w w':=by
 obtain⟨i0,bo,bP,bT,bX⟩:=info_parts Qc;obtain⟨j0,bp,bl,al,bm⟩:=info_parts Rh;obtain⟨tk,tx,ta,tz,tn,-,-,-,-,hn,dH⟩:=aW t A c;obtain⟨W1, a8⟩:=ag (w.alloc (.cells #[.int .i64 tk,.string tx,.int .i64 ta,.int .i64 tz,.slice A tn c] 24));have f:Below w.heap.size w W1:=by rw[<- a8];exact ai _ _
 have N:ah W1 w.heap.size 24 #[.int .i64 tk,.string tx,.int .i64 ta,.int .i64 tz,.slice A tn c]:=by rw[<- a8];exact ah.new _ _ _
 have V:=Oq t A c W1 (by omega) (aD.mono f.size _ _ _ (aD.below f (ab9 _) _ _ _ hk));rw[hv]at V;rw[dH]at V⊢;have Hq:=kH V;have bt:=N.lt;have X:=kH (And.intro f (And.intro N (aD.below f (ab9 _) _ _ _ hk)));have ca:tn<=1000000:=by have:=dO t.kids;have:=eY t;omega
 have HV:Hid (dC t=true/\t.kids.length=tn/\aB t<=1000000):=kH ⟨hv,hn,hm⟩;have b0:=N.cell 0;have b1:=N.cell 1;have b2:=N.cell 2;have b3:=N.cell 3;have b4:=N.cell 4;clear f N V hk hv hn hm dH;go_in
 go_wp2_with (rw[a8])
 clear a8;refine Hq.out.mono ?_;rintro e C ⟨rfl,ab⟩;have qX:=X.out.2.1.below ab X.out.2.1.lt;have I:Hid (Below w.heap.size w C/\w.heap.size<C.heap.size/\aD C w.heap.size A 0 t.kids):=kH ⟨X.out.1.trans (ab.mono X.out.1.size),qX.lt,aD.below ab X.out.1.size _ _ _ X.out.2.2⟩;have b4:=qX.cell 4;have bu:=qX.lt;clear ab qX b0 b1 b2 b3 bt;go_wp2_with fail
 clear b4 bu;go_loopg [3,5,6,17] tn (fun gk s3 s5 s6 c0 wr=> ∃(i on oc:Nat) (oA:Option Addr) (K:List Rc),i+gk=tn/\s3= .slice oA on oc/\c0= .int .i64 (i:Int)/\Hid (aG wr C.heap.size 164 2 (.slice oA on oc) on (K.flatMap gT)/\K.length=on/\K.map (·.1)=jc (t.kids.take i)/\Below C.heap.size C wr))
 case atStart=>exact⟨0,0,0,none,[],by omega,rfl,rfl,kH ⟨aG.nil _ _ _ _,rfl,rfl,Below.refl _ _⟩⟩
 obtain⟨i,on,oc,oA,K,hi,rfl,rfl,G⟩:=hrel;by_cases bw:i<tn
 ·have bx:(i:Int)<(tn:Int):=by omega
  have NL:IntKind.i64.wrap ((i:Int)+1)=(i:Int)+1:=IntWalk.i64_in _ (by omega);have an:i<t.kids.length:=by rw[HV.out.2.1];exact bw
  have bb:aD wr w.heap.size A 0 t.kids:=aD.below G.out.2.2.2 (Nat.le_of_lt I.out.2.1) _ _ _ I.out.2.2;obtain⟨kb,ko,U,uc,hT,bs,u0,u1,u2,u3,u4,Bp⟩:=vC bb (gq an);obtain⟨uk,O,ua,uz,ul,nJ,oI,qm,rP,nY,-⟩:=aW (kd t i) U uc;rw[nJ]at u0;rw[oI]at u1;rw[qm]at u2;rw[rP]at u3;rw[nY]at u4;subst hT;have sD:kb<wr.heap.size:=by have:=I.out.2.1;have:=G.out.2.2.2.size;omega
  obtain⟨Z, aa⟩:=ag (wr.alloc (.cells #[.int .i64 uk,.string O,.int .i64 ua,.int .i64 uz,.slice U ul uc] 24));have ad:Below wr.heap.size wr Z:=by rw[<- aa];exact ai _ _
  have kX:ah Z wr.heap.size 24 #[.int .i64 uk,.string O,.int .i64 ua,.int .i64 uz,.slice U ul uc]:=by rw[<- aa];exact ah.new _ _ _
  have av:=FH (gq an);rw[nJ,oI]at av;have ax:=kH av;have n0:=kX.cell 0;have n1:=kX.cell 1;have n4:=kX.cell 4;have r:=kX.lt;have az:=G.out.1.below ad (fun g J=>(G.out.1.lt g J).2);have B:Hid (Below wr.heap.size wr Z/\ah Z wr.heap.size 24 #[.int .i64 uk,.string O,.int .i64 ua,.int .i64 uz,.slice U ul uc]/\aD Z w.heap.size U 0 (kd t i).kids/\aG Z C.heap.size 164 2 (.slice oA on oc) on (K.flatMap gT)/\(kd t i).kids.length=ul/\(kd t i).kind=uk):=kH ⟨ad,kX,aD.below ad (by have:=I.out.2.1;have:=G.out.2.2.2.size;omega) _ _ _ Bp,az,nY,nJ⟩;have a7:=kH aa;clear ad kX bb Bp av az nJ oI qm rP nY n0 n1 n4 r bs aa;by_cases h3:uk=3
  ·subst h3
   go_upto_region 7 with fail
   rw[a7.out];clear a7 u0 u1 u2 u3 u4 sD;have n0:=B.out.2.1.cell 0;have n1:=B.out.2.1.cell 1;have n4:=B.out.2.1.cell 4;have r:=B.out.2.1.lt;obtain⟨z, iV⟩:=ag (Z.alloc (.cells #[.string O,.slice none 0 0] 164));have d:Below Z.heap.size Z z:=by rw[<- iV];exact ai _ _
   obtain⟨E, vO⟩:=ag Z.heap.size;have DY:ah z E 164 #[.string O,.slice none 0 0]:=by rw[<- iV,<- vO];exact ah.new _ _ _
   have wN:z.heap.size=E+1:=by rw[<- iV,<- vO];simp
   have nY:ul<=1000000:=by
    have h1:=dO (kd t i).kids;have h2:=eY (kd t i);have h3:=dI t.kids i _ (gq an);have h4:=fe t.kids (i+1);have h5:=eY t;have h6:=HV.out.2.2;have h7:=B.out.2.2.2.2.1;omega
   have y:Hid (Below wr.heap.size wr z/\aD z w.heap.size U 0 (kd t i).kids/\aG z C.heap.size 164 2 (.slice oA on oc) on (K.flatMap gT)/\z.heap.size=E+1/\C.heap.size<=E/\Z.heap.size=E/\wr.heap.size<E):=kH ⟨B.out.1.trans (d.mono B.out.1.size),aD.below d (by have:=I.out.2.1;have:=G.out.2.2.2.size;have:=B.out.1.size;omega) _ _ _ B.out.2.2.1,B.out.2.2.2.1.below d (fun g J=>(B.out.2.2.2.1.lt g J).2),wN,by have:=G.out.2.2.2.size;have:=B.out.1.size;omega,vO,by have:=B.out.2.1.lt;omega⟩;have DZ:=B.out.2.1.below d B.out.2.1.lt;have aw:=kH DZ;have bh:=kH DY;have Cv:=kH iV;clear d DY wN DZ iV vO;go_upto_region 9 with fail
   rw[Cv.out,y.out.2.2.2.2.2.1];clear Cv n0 n1 n4 r;have n4:=aw.out.cell 4;have r:=aw.out.lt;go_wp2_with fail
   clear n4 r;obtain⟨wo,rfl⟩:∃W:World,W=wr:=⟨_,rfl⟩
   obtain⟨bk,rfl⟩:∃g:Nat,g=gk:=⟨_,rfl⟩
   go_loopg [8,9,10,30] ul (fun gk s8 s9 cb c1 wr=> ∃(j M:Nat) (L:Option Addr) (xs:List Value),j+gk=ul/\c1= .int .i64 (j:Int)/\Hid (ah wr E 164 #[.string O,.slice L j M]/\aG wr (E+1) 168 4 (.slice L j M) j xs/\ak (fun g=>g=E) z wr))
   case atStart=>exact⟨0,0,none,[],by omega,rfl,kH ⟨bh.out,aG.nil _ _ _ _,ak.refl _ _⟩⟩
   obtain⟨j,M,L,xs,hj,rfl,x⟩:=hrel;by_cases br:j<ul
   ·have bj:(j:Int)<(ul:Int):=by omega
    have T9:IntKind.i64.wrap ((j:Int)+1)=(j:Int)+1:=IntWalk.i64_in _ (by omega);have ay:Below w.heap.size z wr:=x.out.2.2.toBelow (by have:=y.out.2.2.2.1;have:=y.out.2.2.2.2.1;have:=I.out.2.1;omega) fun g J=>by rw[J];have:=y.out.2.2.2.2.1;have:=I.out.2.1;omega
    have b9:j<(kd t i).kids.length:=by rw[B.out.2.2.2.2.1];exact br
    have ba:aD wr w.heap.size U 0 (kd t i).kids:=aD.below ay (ab9 _) _ _ _ y.out.2.1;obtain⟨fb,fo,F,zR,hU,FR,f0,f1,f2,f3,f4,NR⟩:=vC ba (gq b9);have al:(kd (kd t i) j).kids.length=1:=KL HV.out.1 (acn (gq an)) B.out.2.2.2.2.2 _ (acn (gq b9));obtain⟨yb,yo,Y,yc,hF,bM,y0,y1,y2,y3,y4,Ub⟩:=vC NR (gq (i:=0) (by omega));rw[al]at f4;subst hU hF;rw[Nat.zero_mul,Nat.add_zero]at y0 y1 y2 y3 y4;obtain⟨fk,fx,fa,fz,fn,NS,b6,b5,b7,-,-⟩:=aW (kd (kd t i) j) none 0;rw[NS]at f0;rw[b6]at f1;rw[b5]at f2;rw[b7]at f3;have bI:w.heap.size<wr.heap.size:=by have:=x.out.2.2.size;have:=y.out.2.2.2.1;have:=y.out.2.2.2.2.1;have:=I.out.2.1;omega
    have bn:fb<wr.heap.size:=by omega
    obtain⟨W5, ja⟩:=ag (wr.alloc (.cells #[.int .i64 fk,.string fx,.int .i64 fa,.int .i64 fz,.slice (some ⟨yb,yo,none⟩) 1 zR] 24));have af:Below wr.heap.size wr W5:=by rw[<- ja];exact ai _ _
    have vQ:ah W5 wr.heap.size 24 #[.int .i64 fk,.string fx,.int .i64 fa,.int .i64 fz,.slice (some ⟨yb,yo,none⟩) 1 zR]:=by rw[<- ja];exact ah.new _ _ _
    have bN:yb<W5.heap.size:=by have:=af.size;omega
    have e5:∀o,W5.cell? ⟨yb,o,none⟩=wr.cell? ⟨yb,o,none⟩:=fun o=>af.cell (p:=⟨yb,o,none⟩) (by show yb<wr.heap.size;omega)
    have c2:=(e5 _).trans y0;have c4:=(e5 _).trans y1;have c5:=(e5 _).trans y2;have c6:=(e5 _).trans y3;have c7:=(e5 _).trans y4;have ao:=Gj (kd (kd (kd t i) j) 0) Y yc none 0 0 [] W5 (jI.nil _ _);unfold aO at ao;obtain⟨⟨qk,ql,qr⟩,hq⟩:∃q:Ty,(mG [] (kd (kd (kd t i) j) 0)).getD (0,0,⟨#[]⟩)=q:=⟨_,rfl⟩
    obtain⟨qb, bc⟩:=ag ((mG [] (kd (kd (kd t i) j) 0)).isSome);have bd:uw (mG [] (kd (kd (kd t i) j) 0))= .tuple #[.agg #[.int .i64 qk,.int .i64 ql,.string qr],.bool qb]:=by unfold uw;rw[hq,bc];rfl
    rw[bd]at ao;have Ho:=kH ao;have n4:=vQ.cell 4;have r:=vQ.lt;have kF:=kH (And.intro af vQ);have Ov:=kH ja;clear ay ba NR Ub al FR bM bI af vQ e5 y0 y1 y2 y3 y4 ao hq bc bd NS b6 b5 b7 ja n4 r;go_upto_region 12 with fail
    rw[Ov.out];clear Ov f0 f1 f2 f3 f4 bn;have n4:=kF.out.2.cell 4;have r:=kF.out.2.lt;go_wp2_with fail
    refine Ho.out.mono ?_;rintro e w6 ⟨rfl,b⟩;obtain⟨T, rQ⟩:=ag (w6.alloc (.cells #[.int .i64 qk,.int .i64 ql,.string qr] 108));obtain⟨g9, GU⟩:=ag w6.heap.size;have tu:Below w6.heap.size w6 T:=by rw[<- rQ];exact ai _ _
    have aE:ah T g9 108 #[.int .i64 qk,.int .i64 ql,.string qr]:=by rw[<- rQ,<- GU];exact ah.new _ _ _
    have jP:Below wr.heap.size wr T:=kF.out.1.trans ((b.trans (tu.mono b.size)).mono kF.out.1.size);have YG:=kF.out.2.below (b.trans (tu.mono b.size)) kF.out.2.lt;have ar:=x.out.1.below jP x.out.1.lt;have NW:=x.out.2.1.below jP (fun g J=>(x.out.2.1.lt g J).2);have R:Hid (Below wr.heap.size wr T/\ah T E 164 #[.string O,.slice L j M]/\aG T (E+1) 168 4 (.slice L j M) j xs/\ah T wr.heap.size 24 #[.int .i64 fk,.string fx,.int .i64 fa,.int .i64 fz,.slice (some ⟨yb,yo,none⟩) 1 zR]/\ah T g9 108 #[.int .i64 qk,.int .i64 ql,.string qr]/\E+1<=T.heap.size):=kH ⟨jP,ar,NW,YG,aE,by have:=ar.lt;omega⟩;have aq:=kH (And.intro rQ GU);clear b tu aE jP YG ar NW rQ GU n4 r c2 c4 c5 c6 c7 bN;go_upto_region 13 with fail
    rw[aq.out.1,aq.out.2];clear aq;have r1:=R.out.2.1.cell 1;have rl:=R.out.2.1.lt;have n1:=R.out.2.2.2.1.cell 1;have r:=R.out.2.2.2.1.lt;have t0:=R.out.2.2.2.2.1.cell 0;have t1:=R.out.2.2.2.2.1.cell 1;have t2:=R.out.2.2.2.2.1.cell 2;have tl:=R.out.2.2.2.2.1.lt;obtain⟨u, xJ⟩:=ag (T.alloc (.cells #[.string fx,.int .i64 qk,.int .i64 ql,.string qr] 168))
    have P:Hid (aG u (E+1) 168 4 (.slice L j M) j xs/\ah u E 164 #[.string O,.slice L j M]/\(some E≠(Value.slice L j M).ownBlock)/\(∀(q:Nat) (v:Value),[Value.string fx,.int .i64 qk,.int .i64 ql,.string qr][q]? =some v->u.cell? ((⟨T.heap.size,0,none⟩:Addr).add q)=some v)/\E+1<=u.heap.size/\ak (fun g=>g=E) z u/\z.heap.size=E+1):=kH (by
     have Q:Below T.heap.size T u:=by rw[<- xJ];exact ai _ _
     refine⟨by rw[<- xJ];exact R.out.2.2.1.alloc _,by rw[<- xJ];exact R.out.2.1.alloc _,fun e=>(R.out.2.2.1.bB R.out.2.1 (by decide)) e.symm,?_,aca R.out.2.2.2.2.2 Q.size,(x.out.2.2.below R.out.1).below Q,y.out.2.2.2.1⟩;rw[<- xJ]
     exact Ar _ _ 168 _ (ah.new _ _ _))
    have a6:j+1<=maxLen:=by simp only[maxLen];omega
    have a1:(j+1)*48<=140737488355328:=by omega
    have HJ:=kH (And.intro a6 a1);clear a6 a1;go_wp2_with (first|rw[xJ]|(at_builtin;go_must (refine dW _ rfl (.tmp 43) (.tmp 48) _ rfl (E+1) 168 j0 _ 4 48 Tryz.underlying162 bp bl al bm rfl (.slice L j M) j xs rfl P.out.1 ⟨T.heap.size,0,none⟩ 1 1 [.string fx,.int .i64 qk,.int .i64 ql,.string qr] rfl rfl P.out.2.2.2.1 (by simp[Value.oneCell']) HJ.out.1 HJ.out.2 P.out.2.2.2.2.1 ?_);intro v8 w8 H D au;obtain⟨m,k,Ce,-,-⟩:=H.shape;subst Ce;have wX:=P.out.2.1.grown D P.out.2.2.1;have xM:=P.out.2.2.2.2.2.1.grown D (fun g J=>.inr (by rw[P.out.2.2.2.2.2.2];exact(P.out.1.lt g J).1));have q1:=wX.cell 1;have qf:=wX.frozen 1;have bZ:=wX.lt;have tL:=kH (And.intro wX (And.intro H xM));clear H D au wX xM))
    have HE:Hid (ah (w8.setCell ⟨E,1,none⟩ (.slice m (j+1) k)) E 164 #[.string O,.slice m (j+1) k]/\aG (w8.setCell ⟨E,1,none⟩ (.slice m (j+1) k)) (E+1) 168 4 (.slice m (j+1) k) (j+1) (xs++[.string fx,.int .i64 qk,.int .i64 ql,.string qr])/\ak (fun g=>g=E) z (w8.setCell ⟨E,1,none⟩ (.slice m (j+1) k))):=kH ⟨by simpa using tL.out.1.dB 1 (.slice m (j+1) k),tL.out.2.1.setCell (by exact tL.out.2.1.bB tL.out.1 (by decide)) _,tL.out.2.2.setCell (.inl rfl) _⟩;clear q1 qf bZ r1 rl n1 r t0 t1 t2 tl;go_roundg (gk - 1)
    case measure=>omega
    exact⟨j+1,k,m,xs++[.string fx,.int .i64 qk,.int .i64 ql,.string qr],by omega,by simp,HE⟩
   have sW:j=ul:=by omega
   have bj:¬(j:Int)<(ul:Int):=by omega
   have hO:=y.out.2.2.1.since x.out.2.2 (fun g J e=>by have:=(B.out.2.2.2.1.lt g J).2;have:=y.out.2.2.2.2.2.1;omega);have MX:Below C.heap.size C z:=G.out.2.2.2.trans (y.out.1.mono G.out.2.2.2.size);have JX:Below C.heap.size C wr:=MX.trans (x.out.2.2.toBelow MX.size fun g J=>by rw[J];exact y.out.2.2.2.2.1);obtain⟨u, xJ⟩:=ag (wr.alloc (.cells #[.string O,.slice L j M] 164));have Q:Below wr.heap.size wr u:=by rw[<- xJ];exact ai _ _
   have P:Hid (aG u C.heap.size 164 2 (.slice oA on oc) on (K.flatMap gT)/\(∀(q:Nat) (v:Value),[Value.string O,.slice L j M][q]? =some v->u.cell? ((⟨wr.heap.size,0,none⟩:Addr).add q)=some v)/\C.heap.size<=u.heap.size/\Below C.heap.size C u):=kH ⟨hO.below Q (fun g J=>(hO.lt g J).2),by rw[<- xJ];exact Ar _ _ 164 _ (ah.new _ _ _),aca JX.size Q.size,JX.trans (Q.mono JX.size)⟩
   have bG:on<=i:=by
    have h1:=wI t.kids i;rw[<- G.out.2.2.1,List.length_map,G.out.2.1]at h1;exact h1
   have a6:on+1<=maxLen:=by simp only[maxLen];omega
   have a1:(on+1)*40<=140737488355328:=by omega
   have HJ:=kH (And.intro a6 a1);have r0:=x.out.1.cell 0;have r1:=x.out.1.cell 1;have rl:=x.out.1.lt;clear a6 a1 hO MX JX Q bG sW;go_wp2_with (first|rw[xJ]|(at_builtin;go_must (refine dW _ rfl (.tmp 52) (.tmp 54) _ rfl C.heap.size 164 i0 _ 2 40 Tryz.underlying114 bo bP bT bX rfl (.slice oA on oc) on (K.flatMap gT) rfl P.out.1 ⟨wr.heap.size,0,none⟩ 1 1 [.string O,.slice L j M] rfl rfl P.out.2.1 (by simp[Value.oneCell']) HJ.out.1 HJ.out.2 P.out.2.2.1 ?_);intro v8 w8 H D au;obtain⟨m,k,Ce,-,-⟩:=H.shape;subst Ce;have tL:Hid (aG w8 C.heap.size 164 2 (.slice m (on+1) k) (on+1) (K.flatMap gT++[.string O,.slice L j M])/\Below C.heap.size C w8):=kH ⟨H,P.out.2.2.2.trans (((ak.refl (fun g=>C.heap.size<=g) _).grown D (fun g J=>.inl (P.out.1.lt g J).1)).toBelow P.out.2.2.1 (fun g J=>J))⟩;clear H D au))
   have HE:Hid (aG w8 C.heap.size 164 2 (.slice m (on+1) k) (on+1) ((K++[(O,L,j,M)]).flatMap gT)/\(K++[(O,L,j,M)]).length=on+1/\(K++[(O,L,j,M)]).map (·.1)=jc (t.kids.take (i+1))/\Below C.heap.size C w8):=kH ⟨by
    rw[List.flatMap_append]
    exact tL.out.1,by rw[acm,G.out.2.1];rfl,by rw[List.map_append,ax.out,G.out.2.2.1];rfl,tL.out.2⟩
   clear r0 r1 rl;go_roundg (bk - 1)
   case measure=>omega
   exact⟨i+1,on+1,k,m,K++[(O,L,j,M)],by omega,rfl,by simp,HE⟩
  have c9:(uk !=3)=true:=by simpa using h3
  have HE:Hid (aG Z C.heap.size 164 2 (.slice oA on oc) on (K.flatMap gT)/\K.length=on/\K.map (·.1)=jc (t.kids.take (i+1))/\Below C.heap.size C Z):=kH ⟨B.out.2.2.2.1,G.out.2.1,by rw[ax.out,if_neg h3,List.append_nil];exact G.out.2.2.1,G.out.2.2.2.trans (B.out.1.mono G.out.2.2.2.size)⟩;go_upto_region 7 with fail
  rw[a7.out];clear a7 u0 u1 u2 u3 u4 sD;have n0:=B.out.2.1.cell 0;have r:=B.out.2.1.lt;go_wp2_with fail
  go_roundg (gk - 1)
  case measure=>omega
  exact⟨i+1,on,oc,oA,K,by omega,rfl,by simp,HE⟩
 have b8:i=tn:=by omega
 have HE:Hid (∃S n c',Ending.returned (.slice oA on oc)= .returned (.slice S n c')/\jI wr wr.heap.size S n (jc t.kids)/\Below w.heap.size w wr):=kH ⟨oA,on,oc,rfl,⟨K,G.out.1.rowAt (cells:=gT) (l:=K) rfl rfl (fun _ _=>rfl) G.out.2.1,G.out.2.1,by rw[G.out.2.2.1,b8,<- HV.out.2.1,List.take_length],by have:=wI t.kids i;rw[<- G.out.2.2.1,List.length_map,G.out.2.1]at this;omega⟩,I.out.1.trans (G.out.2.2.2.mono I.out.1.size)⟩;clear b8;go_wp2_with fail
 go_ret
 exact HE.out
theorem O1(a b:Array UInt8)(C lb:List UInt8)(D:a.toList=C)(E:b.toList=lb)(x:ByteArray):x=⟨a⟩\/x=⟨b⟩\/((x.toList==C)=false/\(x.toList==lb)=false/\x≠⟨a⟩/\x≠⟨b⟩):=by
 by_cases A:x=⟨a⟩
 ·exact .inl A
 by_cases B:x=⟨b⟩
 ·exact .inr (.inl B)
 refine .inr (.inr ⟨?_,?_,A,B⟩)
 ·rw[beq_eq_false_iff_ne];exact fun h=>A (rJ (by rw[<- ByteArray.toList_eq,h,<- D]))
 rw[beq_eq_false_iff_ne];exact fun h=>B (rJ (by rw[<- ByteArray.toList_eq,h,<- E]))
theorem lits0(x:ByteArray):x=⟨#[]⟩\/(x.toList.isEmpty=false/\(x.toList==[])=false/\x≠⟨#[]⟩):=by
 rcases O1 #[] #[] [] [] rfl rfl x with h|h| ⟨h,-,A,-⟩
 ·exact .inl h
 ·exact .inl h
 refine .inr ⟨?_,h,A⟩
 cases B:x.toList with
 | nil=>rw[B]at h;cases h
 | cons a l=>rfl
theorem Has_bin(x:ByteArray)(W:World)(g:Nat)(B:W.heap.size=g):Calls Tryz.prog 88 #[.slice (some ⟨g,0,none⟩) 13 13,.string x] (W.alloc (.cells #[.string ⟨#[111,114]⟩,.string ⟨#[97,110,100]⟩,.string ⟨#[61,61]⟩,.string ⟨#[33,61]⟩,.string ⟨#[60]⟩,.string ⟨#[60,61]⟩,.string ⟨#[62]⟩,.string ⟨#[62,61]⟩,.string ⟨#[43]⟩,.string ⟨#[45]⟩,.string ⟨#[42]⟩,.string ⟨#[47]⟩,.string ⟨#[37]⟩] 9)) fun e w'=>e= .returned (.bool (fH sj x))/\Below W.heap.size W w':=by
 subst B;refine(AY (some ⟨W.heap.size,0,none⟩) 13 13 sj x _ (yV W 9 sj) rfl (by omega)).mono ?_;rintro e C ⟨rfl,A⟩;exact⟨rfl,(ai _ _).trans (A.mono (ai _ _).size)⟩
theorem Z0(t:ae)(D:Option Addr)(E:Nat)(w:World)(N:0<=t.kind)(K:t.kind<=29)(O:t.kind≠1):
 Calls Tryz.prog 152 #[aO t D E] w fun e w'=>e= .returned (.bool (lQ t.kind t.text))/\Below w.heap.size w w':=by
 obtain⟨k,x,a,z,m,I,Q,-,-,-,P⟩:=aW t D E;rw[P,Q,I];rw[I]at N K O;clear P I Q;have L:=kH (fun W:World=>abO x W);have R:=kH (Has_bin x);have S:=kH (fun W:World=>Ve x W);have A:Hid (Below w.heap.size w (w.alloc (.cells #[.int .i64 k,.string x,.int .i64 a,.int .i64 z,.slice D m E] 24))):=kH (ai _ _);have B:(k=3\/k=4\/k=5\/k=7\/k=8\/k=12\/k=16\/k=19\/k=20\/k=22\/k=27)\/k=9\/(k=10\/k=24)\/k=25\/k=28\/k=29\/(k=0\/k=2\/k=6\/k=11\/k=13\/k=14\/k=15\/k=17\/k=18\/k=21\/k=23\/k=26):=by omega
 clear N K O;rcases B with B|rfl|B|rfl|rfl|rfl|B
 ·rcases B with rfl|rfl|rfl|rfl|rfl|rfl|rfl|rfl|rfl|rfl|rfl
  all_goals
   go_in
   go_wp2_with fail
   refine(L.out _).mono ?_;rintro e J ⟨rfl,C⟩;go_wp2_with fail
   go_ret
   exact⟨by simp[lQ,uf,bO],A.out.trans (C.mono A.out.size)⟩
 ·rcases O1 #[105,110,116] #[98,111,111,108] _ _ rfl rfl x with rfl|rfl| ⟨F,G,H,M⟩
  rotate_right
  ·go_in
   go_wp2_with fail
   refine(L.out _).mono ?_;rintro e J ⟨rfl,C⟩;go_wp2_with fail
   go_ret
   exact⟨by simp[lQ,uf,bO, *],A.out.trans (C.mono A.out.size)⟩
  all_goals
   go_in
   go_wp2_with fail
   go_ret
   exact⟨by simp[lQ,uf],A.out⟩
 ·rcases B with rfl|rfl
  all_goals
   go_in
   go_wp2_with fail
   refine(S.out _).mono ?_;rintro e J ⟨rfl,rfl⟩;go_wp2_with fail
   go_ret
   exact⟨by simp[lQ,uf],A.out⟩
 ·rcases O1 #[116,114,117,101] #[102,97,108,115,101] _ _ rfl rfl x with rfl|rfl| ⟨F,G,H,M⟩
  all_goals
   go_in
   go_wp2_with fail
   go_ret
   exact⟨by simp[lQ,uf, *],A.out⟩
 ·rcases O1 #[45] #[110,111,116] _ _ rfl rfl x with rfl|rfl| ⟨F,G,H,M⟩
  all_goals
   go_in
   go_wp2_with fail
   go_ret
   exact⟨by simp[lQ,uf, *],A.out⟩
 ·go_in
  go_wp2_with fail
  refine(R.out (w.alloc _) (w.heap.size+1) (by simp)).mono ?_;rintro e J ⟨rfl,C⟩;go_wp2_with fail
  go_ret
  exact⟨by simp[lQ,uf],A.out.trans (C.mono A.out.size)⟩
 rcases B with rfl|rfl|rfl|rfl|rfl|rfl|rfl|rfl|rfl|rfl|rfl|rfl
 all_goals rcases lits0 x with rfl| ⟨F,G,H⟩
 all_goals
  go_in
  go_wp2_with fail
  go_ret
  exact⟨by simp[lQ,uf, *],A.out⟩
theorem aaz(k:Int):(ug k).2<=4096:=by
 unfold ug;repeat' split
 all_goals decide
theorem PL{k:Int}{A:List ae}{i:Nat}{u:ae}(D:A[i]? =some u):nz k i (A.drop i)=(jV k i u.kind u.text&&sO u&&nz k (i+1) (A.drop (i+1))):=by
 obtain⟨B,C⟩:=acg.1 D;rw[List.drop_eq_getElem_cons B,C,nz]
theorem Zm:∀(m:Nat) (t:ae) (A:Option Addr) (c:Nat) (w:World),aB t<=m->m<=1000000000000->aD w w.heap.size A 0 t.kids ->
 Calls Tryz.prog 83 #[aO t A c] w fun e w'=>e= .returned (.bool (sO t))/\Below w.heap.size w w':=by
 intro m
 induction m with
 | zero=>
  intro t A c w h;have:=pW t;omega
 | succ m ih=>
  rintro⟨k,x,a,z,C⟩ A c w hm aa hk
  have aw:aC C<=m:=by
   have:aB (.node k x a z C)=1+aC C:=rfl;omega
  have hk:aD w w.heap.size A 0 C:=hk;have H:=fun h0 Cm M (W:World)=>Z0 (.node k x a z C) A c W h0 Cm M
  have K:=fun(i:Nat) (hi:i<=1000000) u At ct (W:World) h0 Cm M=>kid_any k i hi u At ct W h0 Cm M
  rw[show sO (.node k x a z C)=(qB k x C.length&&nz k 0 C) by rw[sO]];change Calls Tryz.prog 83 #[.agg #[.int .i64 k,.string x,.int .i64 a,.int .i64 z,.slice A C.length c]] w _;change ∀(h0:0<=k) (Cm:k<=29) (M:k≠1) (W:World),Calls Tryz.prog 152 #[.agg #[.int .i64 k,.string x,.int .i64 a,.int .i64 z,.slice A C.length c]] W fun e w'=>e= .returned (.bool (lQ k x))/\Below W.heap.size W w' at H
  obtain⟨n, hn⟩:=ag C.length;rw[hn]at H⊢;obtain⟨r, V⟩:=ag ((qB k x n&&nz k 0 C));rw[V];have vw:Hid (Below w.heap.size w (w.alloc (.cells #[.int .i64 k,.string x,.int .i64 a,.int .i64 z,.slice A n c] 24))):=kH (ai _ _);by_cases h0:k<0
  ·have E:r=false:=by rw[<- V];unfold qB;rw[decide_eq_false (p:=0<=k) (by omega)];rfl
   subst E;clear V H K ih hk;go_in
   go_wp2_with fail
   go_ret
   exact⟨rfl,vw.out⟩
  by_cases M:k=1
  ·subst M
   have E:r=false:=by rw[<- V];unfold qB;simp
   subst E;clear V H K ih hk;go_in
   go_wp2_with fail
   go_ret
   exact⟨rfl,vw.out⟩
  have bj:(k==1)=false:=by simpa using M
  by_cases Cm:29<k
  ·have E:r=false:=by rw[<- V];unfold qB;rw[decide_eq_false (p:=k<=29) (by omega)];simp
   subst E;clear V H K ih hk M;go_in
   go_wp2_with fail
   go_ret
   exact⟨rfl,vw.out⟩
  have H:=H (by omega) (by omega) M;have U:=fun W:World=>aay k (by omega) (by omega) W
  have K:=fun(i:Nat) (hi:i<=1000000) u At ct (W:World)=>K i hi u At ct W (by omega) (by omega) M
  have hq:=aaz k
  have G:r=(lQ k x&&decide ((ug k).1<=n)&&decide (n<=(ug k).2)&&nz k 0 C):=by
   rw[<- V];unfold qB;rw[decide_eq_true (p:=0<=k) (by omega),decide_eq_false M,decide_eq_true (p:=k<=29) (by omega)];simp
  obtain⟨tb, b1⟩:=ag (lQ k x);obtain⟨p,q,az⟩:∃p q,ug k=(p,q):=⟨_,_,rfl⟩
  rw[b1]at H G;rw[az]at U G hq;change ∀W:World,Calls Tryz.prog 153 #[.int .i64 k] W fun e w'=>e= .returned (.tuple #[.int .i64 (p:Int),.int .i64 (q:Int)])/\W=w' at U
  change r=(tb&&decide (p<=n)&&decide (n<=q)&&nz k 0 C) at G;have hq:q<=4096:=hq;have Hr:=kH H;have b5:=kH U;have b4:=kH K;have HK:=kH hk;have HN:=kH hn;have jo:=kH ih;have HM:Hid (aC C<=m/\m<=1000000000000):=kH ⟨aw,by omega⟩;clear V H U K hk hn ih aw aa hm b1 az M;go_in
  go_wp2_with fail
  generalize a7:w.alloc (.cells #[.int .i64 k,.string x,.int .i64 a,.int .i64 z,.slice A n c] 24)=W1
  have nK:ah W1 w.heap.size 24 #[.int .i64 k,.string x,.int .i64 a,.int .i64 z,.slice A n c]:=by rw[<- a7];exact ah.new w _ _
  rw[a7]at vw;have a6:=kH nK;clear a7 nK;refine(Hr.out _).mono ?_;rintro e w1 ⟨rfl,a8⟩;have F:=kH (vw.out.trans (a8.mono vw.out.size));have N:=a6.out.below a8 a6.out.lt;have c0:w1.cell? ⟨w.heap.size,0,none⟩=some (.int .i64 k):=N.cell 0;have c4:w1.cell? ⟨w.heap.size,4,none⟩=some (.slice A n c):=N.cell 4;have ay:=N.lt;have an:=kH N;have zD:=kH (aD.below F.out (ab9 _) _ _ _ HK.out);clear a8 N a6 vw Hr
  cases tb with
  | false=>
   have E:r=false:=by rw[G];rfl
   subst E;clear G;go_wp2_with fail
   go_ret
   exact⟨rfl,F.out⟩
  | true=>
  go_wp2_with fail
  refine(b5.out _).mono ?_;rintro e w' ⟨rfl,rfl⟩;by_cases hp:n<p
  ·have bb:(n:Int)<(p:Int):=by omega
   have E:r=false:=by rw[G,decide_eq_false (p:=p<=n) (by omega)];rfl
   subst E;clear G;go_wp2_with fail
   go_ret
   exact⟨rfl,F.out⟩
  have bb:¬(n:Int)<(p:Int):=by omega
  by_cases FO:q<n
  ·have bc:(q:Int)<(n:Int):=by omega
   have E:r=false:=by rw[G,decide_eq_false (p:=n<=q) (by omega)];simp
   subst E;clear G;go_wp2_with fail
   go_ret
   exact⟨rfl,F.out⟩
  have bc:¬(q:Int)<(n:Int):=by omega
  have b0:r=nz k 0 C:=by rw[G,decide_eq_true (p:=p<=n) (by omega),decide_eq_true (p:=n<=q) (by omega)];simp
  have bo:n<=4096:=by omega
  have rR:=kH b0;clear G b0 hq;go_wp2_with fail
  go_loopg [5] n (fun gk s5 wr=> ∃i:Nat,i+gk=n/\s5= .int .i64 (i:Int)/\Below w1.heap.size w1 wr/\r=nz k i (C.drop i))
  case atStart=>exact⟨0,by omega,rfl,Below.refl _ _,rR.out⟩
  obtain⟨i,hi,rfl,hB,aE⟩:=hrel;have O:=an.out.below hB ay;have r0:wr.cell? ⟨w.heap.size,0,none⟩=some (.int .i64 k):=O.cell 0;have r4:wr.cell? ⟨w.heap.size,4,none⟩=some (.slice A n c):=O.cell 4;have bn:=O.lt;have bh:=kH O;have R:=kH hB;have HI:=kH hi;have ao:=kH aE;have bm:i<=n:=by omega
  clear hB O hi aE c0 c4;by_cases b9:i<n
  ·have ba:(i:Int)<(n:Int):=by omega
   have bl:¬((i:Int)<0):=by omega
   obtain⟨u,hu⟩:∃u,C[i]? =some u:=⟨_,ace (by rw[HN.out];exact b9)⟩
   obtain⟨vals,⟨b,D,hA,bk,ax⟩,hT⟩:=zD.out.get i u hu;obtain⟨A',c',iY,ar⟩:=hT.five;subst hA;subst iY;have b6:b<w1.heap.size:=by omega
   have Q:∀W,Below wr.heap.size wr W->W.cell? ⟨w.heap.size,0,none⟩=some (.int .i64 k)/\W.cell? ⟨w.heap.size,4,none⟩=some (.slice (some ⟨b,D,none⟩) n c)/\W.cell? ⟨b,D+i*5,none⟩=some (.int .i64 u.kind)/\W.cell? ⟨b,D+i*5+1,none⟩=some (.string u.text)/\W.cell? ⟨b,D+i*5+2,none⟩=some (.int .i64 u.at_)/\W.cell? ⟨b,D+i*5+3,none⟩=some (.int .i64 u.end_)/\W.cell? ⟨b,D+i*5+4,none⟩=some (.slice A' u.kids.length c'):=fun W hb=>by
    have aq:=R.out.trans (hb.mono R.out.size);have hh:=an.out.below aq ay;have e:=fun j v (hj:[Value.int .i64 u.kind,.string u.text,.int .i64 u.at_,.int .i64 u.end_,.slice A' u.kids.length c'][j]? =some v)=>(aq.cell (p:=⟨b,_,none⟩) b6).trans (ax j v hj)
    exact⟨hh.cell 0,hh.cell 4,by simpa using e 0 _ rfl,by simpa using e 1 _ rfl,by simpa using e 2 _ rfl,by simpa using e 3 _ rfl,by simpa using e 4 _ rfl⟩
   have bd:=dI C i u hu;have b8:=fe C (i+1);have al:=PL (k:=k) hu;have J:=fun W (hb:Below wr.heap.size wr W)=>jo.out u A' c' W (by have:=HM.out;omega) HM.out.2 (aD.mono (B:=w.heap.size) (by have:=F.out.size;have:=R.out.size;have:=hb.size;omega) _ _ _ (aD.below (R.out.trans (hb.mono R.out.size)) (by have:=F.out.size;omega) _ _ _ ar))
   have yg:=fun W:World=>b4.out i (by omega) u A' c' W
   obtain⟨kb, ab⟩:=ag (jV k i u.kind u.text);obtain⟨sb, af⟩:=ag (sO u);rw[ab]at yg;rw[af]at J;rw[ab,af]at al;unfold aO at J yg;have HC:=kH J;have a1:=kH yg;have Uy:=kH (ao.out.trans al);have bp:IntKind.i64.wrap ((i:Int)+1)=(i:Int)+1:=IntWalk.i64_in _ (by omega);have AU:=kH Q;obtain⟨un, b3⟩:=ag u.kids.length;obtain⟨uk, nJ⟩:=ag u.kind;obtain⟨ux, oI⟩:=ag u.text;obtain⟨ua, qm⟩:=ag u.at_;obtain⟨ue, b2⟩:=ag u.end_;rw[b3,nJ,oI,qm,b2]at HC a1 AU;clear ax hT ar bd b8 J hu b3 nJ oI qm b2 yg al Q ab af;have L:Below wr.heap.size wr wr.drew:=(Below.refl _ _).drew;have P:=AU.out _ L;go_wp2_with fail
   cases kb with
   | false=>
    have E:r=false:=by rw[Uy.out];rfl
    subst E;refine bF (fun W=>W.cell? ⟨w.heap.size,0,none⟩=some (.int .i64 k)/\W.cell? ⟨w.heap.size,4,none⟩=some (.slice (some ⟨b,D,none⟩) n c)/\W.cell? ⟨b,D+i*5,none⟩=some (.int .i64 uk)/\W.cell? ⟨b,D+i*5+1,none⟩=some (.string ux)/\W.cell? ⟨b,D+i*5+2,none⟩=some (.int .i64 ua)/\W.cell? ⟨b,D+i*5+3,none⟩=some (.int .i64 ue)/\W.cell? ⟨b,D+i*5+4,none⟩=some (.slice A' un c')) [] [true,true,true,true,true,true,true,true,false,true,true,true,true,true,true,true,true,true,true] (by kernel_rfl) (by kernel_rfl) rfl (by kernel_rfl) ?_;iterate 8((first|(refine dU (by rfl) P ?_)|(refine bC (by rfl) P (by intro w' I;obtain⟨X,Y,Z,y,l,g,f⟩:=I;go_simp;rfl) ?_));simp only[Act.put,sA,sZ,sC])
    refine dG (by rfl) (by go_simp) ((a1.out _).mono ?_);rintro e4 w4 ⟨rfl,T⟩;have d:Below wr.heap.size wr w4:=L.trans (T.mono L.size);have mE:=AU.out _ d;refine⟨_,rfl,fun _=>mE,?_⟩;iterate 10(simp only[Act.put,sA,sZ,sC];(first|(refine dU (by rfl) mE ?_)|(refine bC (by rfl) mE (by intro w' I;obtain⟨X,Y,Z,y,l,g,f⟩:=I;go_simp;rfl) ?_)))
    simp only[Act.put,sA,sZ,sC];refine fT ?_;go_wp2_with fail
    go_ret
    exact⟨rfl,F.out.trans ((R.out.trans (d.mono R.out.size)).mono F.out.size)⟩
   | true=>
    refine bF (fun W=>W.cell? ⟨w.heap.size,0,none⟩=some (.int .i64 k)/\W.cell? ⟨w.heap.size,4,none⟩=some (.slice (some ⟨b,D,none⟩) n c)/\W.cell? ⟨b,D+i*5,none⟩=some (.int .i64 uk)/\W.cell? ⟨b,D+i*5+1,none⟩=some (.string ux)/\W.cell? ⟨b,D+i*5+2,none⟩=some (.int .i64 ua)/\W.cell? ⟨b,D+i*5+3,none⟩=some (.int .i64 ue)/\W.cell? ⟨b,D+i*5+4,none⟩=some (.slice A' un c')) [] [true,true,true,true,true,true,true,true,false,true,true,true,true,true,true,true,false,true,true] (by kernel_rfl) (by kernel_rfl) rfl (by kernel_rfl) ?_;iterate 8((first|(refine dU (by rfl) P ?_)|(refine bC (by rfl) P (by intro w' I;obtain⟨X,Y,Z,y,l,g,f⟩:=I;go_simp;rfl) ?_));simp only[Act.put,sA,sZ,sC])
    refine dG (by rfl) (by go_simp) ((a1.out _).mono ?_);rintro e4 w4 ⟨rfl,T⟩;have d:Below wr.heap.size wr w4:=L.trans (T.mono L.size);have mE:=AU.out _ d;refine⟨_,rfl,fun _=>mE,?_⟩;iterate 7(simp only[Act.put,sA,sZ,sC];(first|(refine dU (by rfl) mE ?_)|(refine bC (by rfl) mE (by intro w' I;obtain⟨X,Y,Z,y,l,g,f⟩:=I;go_simp;rfl) ?_)))
    simp only[Act.put,sA,sZ,sC];refine dG (by rfl) (by go_simp) ((HC.out _ d).mono ?_);rintro e5 w5 ⟨rfl,au⟩;have tC:Below wr.heap.size wr w5:=d.trans (au.mono d.size);have S:=AU.out _ tC;refine⟨_,rfl,fun _=>S,?_⟩;iterate 2(simp only[Act.put,sA,sZ,sC];(first|(refine dU (by rfl) S ?_)|(refine bC (by rfl) S (by intro w' I;obtain⟨X,Y,Z,y,l,g,f⟩:=I;go_simp;rfl) ?_)))
    simp only[Act.put,sA,sZ,sC];refine fT ?_;have av:=R.out.trans (tC.mono R.out.size);have lY:=kH av;clear T au d tC P mE S L av
    cases sb with
    | false=>
     have E:r=false:=by rw[Uy.out];rfl
     subst E;go_wp2_with fail
     go_ret
     exact⟨rfl,F.out.trans (lY.out.mono F.out.size)⟩
    | true=>
     go_wp2_with fail
     go_roundg (gk - 1)
     case measure=>have:=HI.out;omega
     exact⟨i+1,by have:=HI.out;omega,by simp,lY.out,by rw[Uy.out];simp⟩
  have b7:i=n:=by omega
  have ad:r=true:=by rw[ao.out,b7,<- HN.out,List.drop_length,nz]
  subst ad;go_wp2_with fail
  go_ret
  exact⟨rfl,F.out.trans (R.out.mono F.out.size)⟩
theorem KM(t:ae)(A:Option Addr)(c:Nat)(w:World)(M:aB t<=4096)(L:aD w w.heap.size A 0 t.kids):
 Calls Tryz.prog 42 #[aO t A c] w fun e w'=>e= .returned (.bool (dC t))/\Below w.heap.size w w':=by
 obtain⟨k,x,a,z,m,D,-,-,-,-,K⟩:=aW t A c;have B:=ai w (.cells #[.int .i64 k,.string x,.int .i64 a,.int .i64 z,.slice A m c] 24);have F:=Zm (aB t) t A c (w.alloc (.cells #[.int .i64 k,.string x,.int .i64 a,.int .i64 z,.slice A m c] 24)) (ab9 _) (by omega) (aD.mono (by simp) _ _ _ (aD.below B (ab9 _) _ _ _ L));have G:=F.mono (R':=fun e w'=>e= .returned (.bool (eX t))/\Below w.heap.size w w') (fun e w' ⟨N,H⟩=>⟨by rw[<- IM t M];exact N,B.trans (H.mono (by simp))⟩);obtain⟨q, C⟩:=ag (dC t);rw[K]at G⊢;rw[C];unfold dC at C;obtain⟨P, E⟩:=ag (eX t);rw[E]at G C;rw[D]at C;have I:=kH B;have J:=kH C;clear L F D E C M B K;by_cases H:k=2
 ·subst H
  go_in
  go_wp2_with fail
  refine G.mono ?_;rintro e Q ⟨rfl,O⟩;go_wp2_with fail
  go_ret
  exact⟨kS (by rw[<- J.out];simp),O⟩
 clear G;go_in
 go_wp2_with fail
 go_ret
 exact⟨kS (by rw[<- J.out];simp[H]),I.out⟩
theorem Sz{P:Program}{G:Array Oper}{Q:Exit->Act->World->Prop}{S:World->Prop}{ex:List Nat}{k:Nat}{O:List Bool}{o:Oper}{rest:List Oper}{a:Act}{w:World}(V:Region.wanted o (yielded G a.tmps)=true)(s x:Operand)(t:TypeId)
 (Y:o.op= .call { callee:=.builtin .append,args:=#[s,x],argTypes:=#[t,t] })
 (base:Nat) (e:TypeId) (i:TypeInfo) (z:Value) (size B:Nat) (y:P.underlying t=some (.slice e)) (W:P.info? e=some i) (q:i.zero=some z)
 (F:i.size=size) (L:i.bytes=B) (M:z.cells.size=size)
 (v:Value) (n:Nat) (N:List Value) (Z:a.eval s=v) (H:aG w base e size v n N)
 (J:Addr) (m c:Nat) (A:List Value) (r:a.eval x= .slice (some J) m c) (X:A.length=m*size) (E:∀j u,A[j]? =some u->w.cell? (J.add j)=some u) (R:∀u∈A,u.oneCell'=true)
 (K:n+m<=maxLen) (C:(n+m)*B<=140737488355328) (D:base<=w.heap.size)
 (h:∀I w',aG w' base e size I (n+m) (N++A)->w.grownBy w' v.ownBlock->(ex.contains k=false->S w')/\qa P G Q S ex (k+1) O rest (a.put o.dst I) w'):qa P G Q S ex k (false::O) (o::rest) a w:=
 JA V (fG w s x t Y base e i z size B y W q F L M v n N Z H J m c A r X E R K C D fun I w' T U _=>h I w' T U)
def oC(w:World)(lo:Nat)(A:Option Addr)(n c:Nat)(nm:List ByteArray):Prop:=∃rs:List Rc,aG w lo 164 2 (.slice A n c) n (rs.flatMap gT)/\rs.length=n/\rs.map (·.1)=nm/\n<=1000000
theorem oC.recs{w:World}{M n c B:Nat}{A:Option Addr}{F:List ByteArray}(h:oC w M A n c F)(C:∀g,(Value.slice A n c).ownBlock=some g->g<B):jI w B A n F:=by
 obtain⟨G,H,E,I,J⟩:=h;refine⟨G,fun k x L=>?_,E,I,J⟩;obtain⟨b,D,rfl,-,K⟩:=H.rowAt (cells:=gT) (l:=G) rfl rfl (fun _ _=>rfl) E k x L;exact⟨b,D,rfl,C b rfl,K⟩
theorem P7(t:ae)(A:Option Addr)(c:Nat)(w:World)(hm:aB t<=4096)(hk:aD w w.heap.size A 0 t.kids)(hv:dC t=true):
 Calls Tryz.prog 62 #[aO t A c] w fun e w'=> ∃S n c',e= .returned (.slice S n c')/\oC w' w.heap.size S n c' (jc t.kids)/\Below w.heap.size w w':=by
 obtain⟨i0,c5,cd,cf,cg⟩:=info_parts Qc;obtain⟨j0,c6,c1,ar,c2⟩:=info_parts Rh;obtain⟨tk,tx,ta,tz,b,-,-,-,-,hn,dH⟩:=aW t A c;obtain⟨W1, a7⟩:=ag (w.alloc (.cells #[.int .i64 tk,.string tx,.int .i64 ta,.int .i64 tz,.slice A b c] 24));have b5:Below w.heap.size w W1:=by rw[<- a7];exact ai _ _
 have ay:ah W1 w.heap.size 24 #[.int .i64 tk,.string tx,.int .i64 ta,.int .i64 tz,.slice A b c]:=by rw[<- a7];exact ah.new _ _ _
 have af:=kH (And.intro b5 (And.intro ay (aD.below b5 (ab9 _) _ _ _ hk)));have Lr:=fun(W:World) (hW:Below w.heap.size w W)=>KM t A c W (by omega) (aD.mono hW.size _ _ _ (aD.below hW (ab9 _) _ _ _ hk))
 rw[hv]at Lr;rw[dH]at Lr⊢;have Hq:=kH Lr;have ck:b<=1000000:=by have:=dO t.kids;have:=eY t;omega
 have HV:Hid (dC t=true/\t.kids.length=b/\aB t<=4096):=kH ⟨hv,hn,hm⟩;have aw:W1.heap.size=w.heap.size+1:=by rw[<- a7];simp
 have J:=ay.lt;have bc:=kH a7;have Ib:=kH hk;clear b5 ay Lr hk hv hn hm dH aw a7 J;go_in
 go_upto_region 1 with fail
 rw[bc.out];clear bc;have J:=af.out.2.1.lt;have al:Below w.heap.size w (W1.alloc (.cells #[] 164)):=af.out.1.trans ((ai _ _).mono af.out.1.size);have a1:=Hq.out _ al;obtain⟨D, au⟩:=ag W1.heap.size;obtain⟨W2, m⟩:=ag (W1.alloc (.cells #[] 164));rw[m]at a1 al;have qX:ah W2 w.heap.size 24 #[.int .i64 tk,.string tx,.int .i64 ta,.int .i64 tz,.slice A b c]:=by rw[<- m];exact af.out.2.1.alloc _
 have bd:aG W2 D 164 2 (.slice (some ⟨D,0,none⟩) 0 0) 0 []:=by
  have:=aG.block (w:=W2) (base:=D) (size:=2) (n:=0) (g:=D) (cur:=#[]) (e:=164) (ab9 _) (by rw[<- m,<- au];exact ah.new W1 164 #[]) (by simp[maxLen]) (by simp);simpa using this
 have ad:W2.heap.size=D+1:=by rw[<- m,<- au];simp
 have Q:=kH (And.intro al (And.intro qX (And.intro bd (And.intro ad (show w.heap.size<D by omega)))));have bb:=kH a1;have ax:=kH (And.intro m au);clear al a1 qX bd ad m au Hq J;have b0:=Q.out.2.1.cell 0;have b1:=Q.out.2.1.cell 1;have b2:=Q.out.2.1.cell 2;have b3:=Q.out.2.1.cell 3;have b4:=Q.out.2.1.cell 4;have J:=Q.out.2.1.lt;go_upto_region 2 with fail
 rw[ax.out.1,ax.out.2];clear ax;go_wp2_with fail
 refine bb.out.mono ?_;rintro e w2 ⟨rfl,l⟩;have G:Hid (Below w.heap.size w w2/\w.heap.size<D/\aD w2 w.heap.size A 0 t.kids/\ah w2 w.heap.size 24 #[.int .i64 tk,.string tx,.int .i64 ta,.int .i64 tz,.slice A b c]/\aG w2 D 164 2 (.slice (some ⟨D,0,none⟩) 0 0) 0 []/\D<w2.heap.size):=kH ⟨Q.out.1.trans (l.mono Q.out.1.size),Q.out.2.2.2.2,aD.below l Q.out.1.size _ _ _ (aD.below Q.out.1 (ab9 _) _ _ _ Ib.out),Q.out.2.1.below l Q.out.2.1.lt,Q.out.2.2.1.below l (fun g H=>(Q.out.2.2.1.lt g H).2),by have:=l.size;have:=Q.out.2.2.2.1;omega⟩;clear l b0 b1 b2 b3 b4 J Q bb;go_wp2_with fail
 go_loopg [3,4,5,6,7] b (fun gk s3 s4 s5 s6 s7 wr=> ∃(i on oc:Nat) (oA:Option Addr) (V:List Rc),i+gk=b/\s3= .slice oA on oc/\s4= .int .i64 (i:Int)/\Hid (aG wr D 164 2 (.slice oA on oc) on (V.flatMap gT)/\V.length=on/\V.map (·.1)=jc (t.kids.take i)/\Below D w2 wr))
 case atStart=>exact⟨0,0,0,some ⟨D,0,none⟩,[],by omega,rfl,rfl,kH ⟨G.out.2.2.2.2.1,rfl,rfl,Below.refl _ _⟩⟩
 obtain⟨i,on,oc,oA,V,hi,rfl,rfl,L⟩:=hrel;have NY:=G.out.2.2.2.1.below L.out.2.2.2 G.out.2.1;have b4:=NY.cell 4;have J:=NY.lt;have ZB:=kH NY;clear NY;by_cases c9:i<b
 ·have ca:(i:Int)<(b:Int):=by omega
  have NL:IntKind.i64.wrap ((i:Int)+1)=(i:Int)+1:=IntWalk.i64_in _ (by omega);have av:i<t.kids.length:=by rw[HV.out.2.1];exact c9
  have br:aD wr w.heap.size A 0 t.kids:=aD.below L.out.2.2.2 (Nat.le_of_lt G.out.2.1) _ _ _ G.out.2.2.1;obtain⟨kb,ko,U,uc,hT,bo,u0,u1,u2,u3,u4,Bp⟩:=vC br (gq av);obtain⟨uk,ux,ua,uz,ul,nJ,oI,qm,rP,nY,-⟩:=aW (kd t i) U uc;rw[nJ]at u0;rw[oI]at u1;rw[nY]at u4;subst hT;have sD:kb<wr.heap.size:=by omega
  have b7:=FH (gq av);rw[nJ,oI]at b7;have ba:=kH b7;have HK:Hid (aD wr w.heap.size U 0 (kd t i).kids/\(kd t i).kids.length=ul/\(kd t i).kind=uk/\kb<w.heap.size):=kH ⟨Bp,nY,nJ,bo⟩;clear br Bp b7 nJ oI qm rP u2 u3 bo;by_cases h3:uk=3
  ·subst h3
   have cc:ul<=1000000:=by
    have h1:=dO (kd t i).kids;have h2:=eY (kd t i);have h3:=dI t.kids i _ (gq av);have h4:=fe t.kids (i+1);have h5:=eY t;have h6:=HV.out.2.2;omega
   obtain⟨x, iV⟩:=ag (wr.alloc (.cells #[.string ux,.slice none 0 0] 164));have k:Below wr.heap.size wr x:=by rw[<- iV];exact ai _ _
   obtain⟨C, vO⟩:=ag wr.heap.size;have DY:ah x C 164 #[.string ux,.slice none 0 0]:=by rw[<- iV,<- vO];exact ah.new _ _ _
   have wN:x.heap.size=C+1:=by rw[<- iV,<- vO];simp
   have bl:D<=C:=by have:=L.out.2.2.2.size;have:=G.out.2.2.2.2.2;omega
   have P:Hid (Below wr.heap.size wr x/\aD x w.heap.size U 0 (kd t i).kids/\aG x D 164 2 (.slice oA on oc) on (V.flatMap gT)/\x.heap.size=C+1/\D<=C/\wr.heap.size=C/\ah x w.heap.size 24 #[.int .i64 tk,.string tx,.int .i64 ta,.int .i64 tz,.slice (some ⟨kb,ko,none⟩) b c]):=kH ⟨k,aD.below k (by omega) _ _ _ HK.out.1,L.out.1.below k (fun g H=>(L.out.1.lt g H).2),wN,bl,vO,ZB.out.below k ZB.out.lt⟩;have Ui:∀o,x.cell? ⟨kb,o,none⟩=wr.cell? ⟨kb,o,none⟩:=fun o=>k.cell (p:=⟨kb,o,none⟩) sD
   have ZM:Hid (x.cell? ⟨kb,ko+i*5+4,none⟩=some (.slice U ul uc)):=kH ((Ui _).trans u4);have bT:=kH DY;have Cv:=kH (And.intro iV vO);clear k DY wN iV vO bl Ui;go_upto_region 9 with fail
   rw[Cv.out.1,Cv.out.2];clear Cv u0 u1 u4 sD b4 J;go_wp2_with fail
   obtain⟨wo,rfl⟩:∃W:World,W=wr:=⟨_,rfl⟩
   obtain⟨bZ,rfl⟩:∃g:Nat,g=gk:=⟨_,rfl⟩
   go_loopg [6,7] ul (fun gk s6 s7 wr=> ∃(j O:Nat) (N:Option Addr) (xs:List Value),j+gk=ul/\s6= .int .i64 (j:Int)/\Hid (ah wr C 164 #[.string ux,.slice N j O]/\aG wr (C+1) 168 4 (.slice N j O) j xs/\ak (fun g=>g=C) x wr))
   case atStart=>exact⟨0,0,none,[],by omega,rfl,kH ⟨bT.out,aG.nil _ _ _ _,ak.refl _ _⟩⟩
   obtain⟨j,O,N,xs,hj,rfl,y⟩:=hrel;have an:Below w.heap.size x wr:=y.out.2.2.toBelow (by have:=P.out.2.2.2.1;have:=P.out.2.2.2.2.1;have:=G.out.2.1;omega) fun g H=>by rw[H];have:=P.out.2.2.2.2.1;have:=G.out.2.1;omega
   have az:ah wr w.heap.size 24 #[.int .i64 tk,.string tx,.int .i64 ta,.int .i64 tz,.slice (some ⟨kb,ko,none⟩) b c]:=P.out.2.2.2.2.2.2.since y.out.2.2 (by have:=P.out.2.2.2.2.1;have:=G.out.2.1;omega);have b4:=az.cell 4;have J:=az.lt;have u4:wr.cell? ⟨kb,ko+i*5+4,none⟩=some (.slice U ul uc):=(an.cell (p:=⟨kb,ko+i*5+4,none⟩) HK.out.2.2.2).trans ZM.out;have sD:kb<wr.heap.size:=by have:=HK.out.2.2.2;omega
   by_cases c7:j<ul
   ·have bX:(j:Int)<(ul:Int):=by omega
    have T9:IntKind.i64.wrap ((j:Int)+1)=(j:Int)+1:=IntWalk.i64_in _ (by omega);have bn:j<(kd t i).kids.length:=by rw[HK.out.2.1];exact c7
    have bp:aD wr w.heap.size U 0 (kd t i).kids:=aD.below an (ab9 _) _ _ _ P.out.2.1;obtain⟨fb,fo,F,zR,hU,FR,f0,f1,f2,f3,f4,NR⟩:=vC bp (gq bn);have ar:(kd (kd t i) j).kids.length=1:=KL HV.out.1 (acn (gq av)) HK.out.2.2.1 _ (acn (gq bn));obtain⟨E,M,Y,yc,hF,bM,y0,y1,y2,y3,y4,Ub⟩:=vC NR (gq (i:=0) (by omega));rw[ar]at f4;subst hU hF;rw[Nat.zero_mul,Nat.add_zero]at y1;obtain⟨fk,u,fa,fz,fn,NS,bj,bh,bk,-,-⟩:=aW (kd (kd t i) j) none 0;obtain⟨yk,yx,ya,yz,yn,-,bP,-,-,-,-⟩:=aW (kd (kd (kd t i) j) 0) none 0;rw[NS]at f0;rw[bj]at f1;rw[bh]at f2;rw[bk]at f3;rw[bP]at y1;have c4:fb<wr.heap.size:=by omega
    obtain⟨R, ja⟩:=ag (wr.alloc (.cells #[.int .i64 fk,.string u,.int .i64 fa,.int .i64 fz,.slice (some ⟨E,M,none⟩) 1 zR] 24));obtain⟨K, Cf⟩:=ag wr.heap.size;have T:Below K wr R:=by rw[<- ja,<- Cf];exact ai _ _
    have vQ:ah R K 24 #[.int .i64 fk,.string u,.int .i64 fa,.int .i64 fz,.slice (some ⟨E,M,none⟩) 1 zR]:=by rw[<- ja,<- Cf];exact ah.new _ _ _
    have bI:R.cell? ⟨E,M+1,none⟩=some (.string yx):=(T.cell (p:=⟨E,M+1,none⟩) (by show E<K;omega)).trans y1;have LB:=y.out.1.below T (by rw[<- Cf];exact y.out.1.lt);have Jf:=y.out.2.1.below T (fun g H=>by rw[<- Cf];exact(y.out.2.1.lt g H).2);have bN:E<R.heap.size:=by have:=vQ.lt;omega
    have X:Hid (Below K wr R/\aG R (C+1) 168 4 (.slice N j O) j xs/\wr.heap.size=K/\C<K/\E<w.heap.size/\ah R C 164 #[.string ux,.slice N j O]/\ah R K 24 #[.int .i64 fk,.string u,.int .i64 fa,.int .i64 fz,.slice (some ⟨E,M,none⟩) 1 zR]):=kH ⟨T,Jf,Cf,by rw[<- Cf];exact y.out.1.lt,bM,LB,vQ⟩;have p8:=kH (And.intro bI bN);have Ov:=kH (And.intro ja Cf);have aa:j+1<=maxLen:=by simp only[maxLen];omega
    have a8:(j+1)*48<=140737488355328:=by omega
    have HJ:=kH (And.intro aa a8);clear bp NR Ub ar FR bM T vQ LB Jf y0 y1 y2 y3 y4 NS bj bh bk bP ja Cf bI bN aa a8 an;go_upto_region 13 with fail
    rw[Ov.out.1,Ov.out.2];clear Ov f0 f1 f2 f3 f4 c4 b4 J u4 sD;have aE:(fun W:World=>W.cell? ⟨C,1,none⟩=some (.slice N j O)/\W.cell? ⟨K,1,none⟩=some (.string u)/\W.cell? ⟨K,4,none⟩=some (.slice (some ⟨E,M,none⟩) 1 zR)/\W.cell? ⟨E,M+1,none⟩=some (.string yx)/\C<W.heap.size/\K<W.heap.size/\E<W.heap.size) R.drew:=⟨X.out.2.2.2.2.2.1.cell 1,X.out.2.2.2.2.2.2.cell 1,X.out.2.2.2.2.2.2.cell 4,p8.out.1,X.out.2.2.2.2.2.1.lt,X.out.2.2.2.2.2.2.lt,p8.out.2⟩
    refine bF (fun W:World=>W.cell? ⟨C,1,none⟩=some (.slice N j O)/\W.cell? ⟨K,1,none⟩=some (.string u)/\W.cell? ⟨K,4,none⟩=some (.slice (some ⟨E,M,none⟩) 1 zR)/\W.cell? ⟨E,M+1,none⟩=some (.string yx)/\C<W.heap.size/\K<W.heap.size/\E<W.heap.size) [14] [true,true,true,true,true,true,true,true,true,false,true,false,false,true,false] (by kernel_rfl) (by kernel_rfl) rfl (by kernel_rfl) ?_;iterate 9((first|(refine dU (by rfl) aE ?_)|(refine bC (by rfl) aE (by intro w' a6;obtain⟨aw,bw,bx,bG,J,bs,bt⟩:=a6;go_simp;rfl) ?_));simp only[Act.put,sA,sZ,sC])
    refine dG (by rfl) (by go_simp) ((KJ yx R.drew).mono ?_);rintro e5 w5 ⟨rfl,T⟩;have z:Below R.heap.size R w5:=((⟨rfl,rfl,rfl,ab9 _,fun _ _=>rfl⟩:Below R.heap.size R R.drew).trans (T.mono (show R.heap.size<=R.drew.heap.size from ab9 _)))
    have d:=X.out.2.2.2.2.2.1.below z X.out.2.2.2.2.2.1.lt;have f:=X.out.2.2.2.2.2.2.below z X.out.2.2.2.2.2.2.lt;have TY:w5.cell? ⟨E,M+1,none⟩=some (.string yx):=(z.cell (p:=⟨E,M+1,none⟩) p8.out.2).trans p8.out.1;have r:(fun W:World=>W.cell? ⟨C,1,none⟩=some (.slice N j O)/\W.cell? ⟨K,1,none⟩=some (.string u)/\W.cell? ⟨K,4,none⟩=some (.slice (some ⟨E,M,none⟩) 1 zR)/\W.cell? ⟨E,M+1,none⟩=some (.string yx)/\C<W.heap.size/\K<W.heap.size/\E<W.heap.size) w5:=⟨d.cell 1,f.cell 1,f.cell 4,TY,d.lt,f.lt,by have:=d.lt;have:=X.out.2.2.2.1;have:=p8.out.2;have:=z.size;omega⟩
    refine⟨_,rfl,fun _=>r,?_⟩;simp only[Act.put,sA,sZ,sC];first|(refine dU (by rfl) r ?_)|(refine bC (by rfl) r (by intro w' a6;obtain⟨aw,bw,bx,bG,J,bs,bt⟩:=a6;go_simp;rfl) ?_)
    simp only[Act.put,sA,sZ,sC];obtain⟨qk,bu⟩:∃q:Int,(if fP yx [98,111,111,108]=true then 2 else 1:Int)=q:=⟨_,rfl⟩
    rw[bu];obtain⟨X7, xJ⟩:=ag (w5.alloc (.cells #[.string u,.int .i64 qk,.int .i64 0,.string ⟨#[]⟩] 168));have Z:Below w5.heap.size w5 X7:=by rw[<- xJ];exact ai _ _
    have DR:=d.below Z d.lt;have FP:=f.below Z f.lt;have b8:X7.cell? ⟨E,M+1,none⟩=some (.string yx):=(Z.cell (p:=⟨E,M+1,none⟩) r.2.2.2.2.2.2).trans TY;have Jf:=X.out.2.1.below z (fun g H=>(X.out.2.1.lt g H).2);have Lm:=Jf.below Z (fun g H=>(Jf.lt g H).2);have ab:∀(q:Nat) (v:Value),[Value.string u,.int .i64 qk,.int .i64 0,.string ⟨#[]⟩][q]? =some v->X7.cell? ((⟨w5.heap.size,0,none⟩:Addr).add q)=some v:=by rw[<- xJ];exact Ar _ _ 168 _ (ah.new _ _ _)
    have FV:(fun W:World=>W.cell? ⟨C,1,none⟩=some (.slice N j O)/\W.cell? ⟨K,1,none⟩=some (.string u)/\W.cell? ⟨K,4,none⟩=some (.slice (some ⟨E,M,none⟩) 1 zR)/\W.cell? ⟨E,M+1,none⟩=some (.string yx)/\C<W.heap.size/\K<W.heap.size/\E<W.heap.size) X7:=⟨DR.cell 1,FP.cell 1,FP.cell 4,b8,DR.lt,FP.lt,by have:=DR.lt;have:=X.out.2.2.2.1;have:=r.2.2.2.2.2.2;have:=Z.size;omega⟩
    refine Pd (w':=X7) (by rfl) (by rw[<- xJ];go_simp;rfl) (fun _=>FV) ?_;simp only[Act.put,sA,sZ,sC];refine Sz (by rfl) (.tmp 54) (.tmp 64) _ rfl (C+1) 168 j0 _ 4 48 Tryz.underlying162 c6 c1 ar c2 rfl (.slice N j O) j xs rfl Lm ⟨w5.heap.size,0,none⟩ 1 1 [.string u,.int .i64 qk,.int .i64 0,.string ⟨#[]⟩] rfl rfl ab (by simp[Value.oneCell']) HJ.out.1 HJ.out.2 (by have:=DR.lt;omega) ?_;intro v8 w8 I B;obtain⟨A8,c8,Ce,-,-⟩:=I.shape;subst Ce;have wX:=DR.grown B (fun e=>(Lm.bB DR (by decide)) e.symm);have ao:=FP.grown B (fun e=>(Lm.bB FP (by decide)) e.symm);have lI:Below (C+1) X7 w8:=((ak.refl (fun g=>C+1<=g) _).grown B (fun g H=>.inl (Lm.lt g H).1)).toBelow (by have:=DR.lt;omega) (fun g H=>H);have b9:E<C+1:=by have:=X.out.2.2.2.2.1;have:=P.out.2.2.2.2.1;have:=G.out.2.1;omega
    have xM:(fun W:World=>W.cell? ⟨C,1,none⟩=some (.slice N j O)/\W.cell? ⟨K,1,none⟩=some (.string u)/\W.cell? ⟨K,4,none⟩=some (.slice (some ⟨E,M,none⟩) 1 zR)/\W.cell? ⟨E,M+1,none⟩=some (.string yx)/\C<W.heap.size/\K<W.heap.size/\E<W.heap.size) w8:=⟨wX.cell 1,ao.cell 1,ao.cell 4,(lI.cell (p:=⟨E,M+1,none⟩) b9).trans b8,wX.lt,ao.lt,by have:=wX.lt;omega⟩
    refine⟨fun _=>xM,?_⟩;simp only[Act.put,sA,sZ,sC];first|(refine dU (by rfl) xM ?_)|(refine bC (by rfl) xM (by intro w' a6;obtain⟨aw,bw,bx,bG,J,bs,bt⟩:=a6;go_simp;rfl) ?_)
    simp only[Act.put,sA,sZ,sC];have q1:=wX.cell 1;have qf:=wX.frozen 1;have ql:=wX.lt;refine Na (w':=w8.setCell ⟨C,1,none⟩ (.slice A8 (j+1) c8)) (by rfl) (by go_simp) (by simp) ?_;refine fT ?_;simp only[Act.put];have HE:Hid (ah (w8.setCell ⟨C,1,none⟩ (.slice A8 (j+1) c8)) C 164 #[.string ux,.slice A8 (j+1) c8]/\aG (w8.setCell ⟨C,1,none⟩ (.slice A8 (j+1) c8)) (C+1) 168 4 (.slice A8 (j+1) c8) (j+1) (xs++[.string u,.int .i64 qk,.int .i64 0,.string ⟨#[]⟩])/\ak (fun g=>g=C) x (w8.setCell ⟨C,1,none⟩ (.slice A8 (j+1) c8))):=kH ⟨by simpa using wX.dB 1 (.slice A8 (j+1) c8),I.setCell (by exact I.bB wX (by decide)) _,((((y.out.2.2.below (by rw[X.out.2.2.1];exact X.out.1)).below z).below Z).grown B (fun g H=>.inr (by rw[P.out.2.2.2.1];exact(Lm.lt g H).1))).setCell (.inl rfl) _⟩;clear q1 qf ql aE r FV xM wX ao DR FP d f TY b8 Jf Lm I B lI Z z T bu xJ ab;go_wp2_with fail
    go_roundg (gk - 1)
    case measure=>omega
    exact⟨j+1,c8,A8,xs++[.string u,.int .i64 qk,.int .i64 0,.string ⟨#[]⟩],by omega,by simp,HE⟩
   have sW:j=ul:=by omega
   have bX:¬(j:Int)<(ul:Int):=by omega
   have hO:=P.out.2.2.1.since y.out.2.2 (fun g H e=>by have:=(L.out.1.lt g H).2;have:=P.out.2.2.2.2.2.1;omega);have MX:Below D w2 x:=L.out.2.2.2.trans (P.out.1.mono (by have:=P.out.2.2.2.2.1;have:=P.out.2.2.2.2.2.1;omega));have JX:Below D w2 wr:=MX.trans (y.out.2.2.toBelow (by have:=P.out.2.2.2.1;have:=P.out.2.2.2.2.1;omega) fun g H=>by rw[H];exact P.out.2.2.2.2.1);obtain⟨X7, xJ⟩:=ag (wr.alloc (.cells #[.string ux,.slice N j O] 164));have aq:Below wr.heap.size wr X7:=by rw[<- xJ];exact ai _ _
   have b6:D<=wr.heap.size:=by have:=y.out.2.2.size;have:=P.out.2.2.2.1;have:=P.out.2.2.2.2.1;omega
   have HA:Hid (aG X7 D 164 2 (.slice oA on oc) on (V.flatMap gT)/\(∀(q:Nat) (v:Value),[Value.string ux,.slice N j O][q]? =some v->X7.cell? ((⟨wr.heap.size,0,none⟩:Addr).add q)=some v)/\D<=X7.heap.size/\Below D w2 X7):=kH ⟨hO.below aq (fun g H=>(hO.lt g H).2),by rw[<- xJ];exact Ar _ _ 164 _ (ah.new _ _ _),aca b6 aq.size,JX.trans (aq.mono b6)⟩
   have cb:on<=i:=by
    have h1:=wI t.kids i;rw[<- L.out.2.2.1,List.length_map,L.out.2.1]at h1;exact h1
   have aa:on+1<=maxLen:=by simp only[maxLen];omega
   have a8:(on+1)*40<=140737488355328:=by omega
   have HJ:=kH (And.intro aa a8);have r0:=y.out.1.cell 0;have r1:=y.out.1.cell 1;have rl:=y.out.1.lt;clear aa a8 hO MX JX aq cb sW b6 an az;go_wp2_with (first|rw[xJ]|(at_builtin;go_must (refine dW _ rfl (.tmp 67) (.tmp 69) _ rfl D 164 i0 _ 2 40 Tryz.underlying114 c5 cd cf cg rfl (.slice oA on oc) on (V.flatMap gT) rfl HA.out.1 ⟨wr.heap.size,0,none⟩ 1 1 [.string ux,.slice N j O] rfl rfl HA.out.2.1 (by simp[Value.oneCell']) HJ.out.1 HJ.out.2 HA.out.2.2.1 ?_);intro v8 w8 I B c0;obtain⟨A8,c8,Ce,-,-⟩:=I.shape;subst Ce;have tL:Hid (aG w8 D 164 2 (.slice A8 (on+1) c8) (on+1) (V.flatMap gT++[.string ux,.slice N j O])/\Below D w2 w8):=kH ⟨I,HA.out.2.2.2.trans (((ak.refl (fun g=>D<=g) _).grown B (fun g H=>.inl (HA.out.1.lt g H).1)).toBelow HA.out.2.2.1 (fun g H=>H))⟩;clear I B c0))
   have HE:Hid (aG w8 D 164 2 (.slice A8 (on+1) c8) (on+1) ((V++[(ux,N,j,O)]).flatMap gT)/\(V++[(ux,N,j,O)]).length=on+1/\(V++[(ux,N,j,O)]).map (·.1)=jc (t.kids.take (i+1))/\Below D w2 w8):=kH ⟨by
    rw[List.flatMap_append]
    exact tL.out.1,by rw[acm,L.out.2.1];rfl,by rw[List.map_append,ba.out,L.out.2.2.1];rfl,tL.out.2⟩
   clear r0 r1 rl;go_roundg (bZ - 1)
   case measure=>omega
   exact⟨i+1,on+1,c8,A8,V++[(ux,N,j,O)],by omega,rfl,by simp,HE⟩
  have cj:(uk !=3)=true:=by simpa using h3
  have HE:Hid (aG wr D 164 2 (.slice oA on oc) on (V.flatMap gT)/\V.length=on/\V.map (·.1)=jc (t.kids.take (i+1))/\Below D w2 wr):=kH ⟨L.out.1,L.out.2.1,by rw[ba.out,if_neg h3,List.append_nil];exact L.out.2.2.1,L.out.2.2.2⟩;go_wp2_with fail
  go_roundg (gk - 1)
  case measure=>omega
  exact⟨i+1,on,oc,oA,V,by omega,rfl,by simp,HE⟩
 have bm:i=b:=by omega
 have HE:Hid (∃S n c',Ending.returned (.slice oA on oc)= .returned (.slice S n c')/\oC wr w.heap.size S n c' (jc t.kids)/\Below w.heap.size w wr):=kH ⟨oA,on,oc,rfl,⟨V,L.out.1.mono (Nat.le_of_lt G.out.2.1),L.out.2.1,by rw[L.out.2.2.1,bm,<- HV.out.2.1,List.take_length],by have:=wI t.kids i;rw[<- L.out.2.2.1,List.length_map,L.out.2.1]at this;omega⟩,G.out.1.trans (L.out.2.2.2.mono (Nat.le_of_lt G.out.2.1))⟩;clear bm;go_wp2_with fail
 go_ret
 exact HE.out
end Go.Proofs.YtoepemlnlpamlaaGreat
