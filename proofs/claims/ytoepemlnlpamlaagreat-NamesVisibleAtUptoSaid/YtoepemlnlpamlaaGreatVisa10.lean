/- The law NamesVisibleAt holds where what it reads is of bulk at most 1048576: it returns true, and its arguments read as before. Part 10: Step Expr Operand. -/
import Derived.Test.YtoepemlnlpamlaaGreatVisa09
set_option maxRecDepth 100000
set_option maxHeartbeats 4000000
namespace Go.Proofs.YtoepemlnlpamlaaGreat
open Go.RowKit
def gZ(w:World)(P:Nat->Prop)(g:Nat)(t:ae)(a b c d e:Value):Prop:=
 aj w g 24 #[a,b,c,d,e]/\aC w P t [a,b,c,d,e]
theorem gZ.pm{w w':World}{P:Nat->Prop}{g:Nat}{t:ae}{a b c d e:Value}{E:PE}{v C:PV}(h:gZ w P g t a b c d e)(A:PM E w v w' C)(B:PW w E v):gZ w' P g t a b c d e:=
 ⟨A.blk B h.1,aC.keeps (A.dX B) _ _ h.2⟩
theorem gZ.below{w w':World}{P:Nat->Prop}{g:Nat}{t:ae}{a b c d e:Value}(h:gZ w P g t a b c d e)(A:Below w.heap.size w w'):gZ w' P g t a b c d e:=
 ⟨aj.below h.1 A (aj.lt h.1),aC.keeps (bZ.of_below A) _ _ h.2⟩
theorem gZ.weak{w:World}{P Q:Nat->Prop}{g:Nat}{t:ae}{a b c d e:Value}(h:gZ w P g t a b c d e)(A:∀g,g<w.heap.size->P g->Q g):gZ w Q g t a b c d e:=
 ⟨h.1,aC.weak A _ _ h.2⟩
section
variable (E:PE) (hE:E.Ok) (v:PV) (w:World) (hpw:PW w E v) {p:PS}(hst:v.st=p)
include hE hpw hst
theorem qV(x:bB)(A:bF E.bs E.l p x=false):Calls Tryz.prog 128 #[.pointer (some ⟨E.gp,0,none⟩),.string (bf x)] w fun e w'=>e= .returned (.bool false)/\Ae E w v p w':=by
 subst hst;have:=gm E hE v x w hpw;rw[A]at this;unfold bI at this;rw[A]at this;exact this
theorem pJ(x:bB)(A:bF E.bs E.l p x=true):Calls Tryz.prog 128 #[.pointer (some ⟨E.gp,0,none⟩),.string (bf x)] w fun e w'=>e= .returned (.bool true)/\Ae E w v (aB E.l p) w':=by
 subst hst;have:=gm E hE v x w hpw;rw[A]at this;unfold bI at this;rw[A]at this;exact this
theorem kg(x:bB):Calls Tryz.prog 126 #[.pointer (some ⟨E.gp,0,none⟩),.string (bf x)] w fun e w'=>e= .returned (.bool (bF E.bs E.l p x))/\Ae E w v (aL E.bs E.l p x) w':=by
 subst hst;exact kM E hE v x w hpw
theorem U5:Calls Tryz.prog 125 #[.pointer (some ⟨E.gp,0,none⟩)] w fun e w'=>e= .returned (.string (bf (cK E.bs E.l p)))/\Ae E w v (dK E.l p) w':=by
 subst hst;exact uF E hE v w hpw
theorem Cy(x:bB){b:Bool}(B:bF E.bs E.l p x=b):Calls Tryz.prog 66 #[.pointer (some ⟨E.gp,0,none⟩),.string (bf x)] w fun e w'=>e= .returned (.bool b)/\Ae E w v p w':=by
 subst hst;refine(zl E hE v x w hpw).mono ?_;rintro e w' ⟨rfl,A⟩;exact⟨by rw[B],v,rfl,hpw.below A,PM.of_below A⟩
theorem wT{k:Nat}(B:bM E.l p=k):Calls Tryz.prog 65 #[.pointer (some ⟨E.gp,0,none⟩)] w fun e w'=>e= .returned (.int .i64 (k:Int))/\Ae E w v p w':=by
 subst hst;refine(qb E hE v w hpw).mono ?_;rintro e w' ⟨rfl,A⟩;exact⟨by rw[B],v,rfl,hpw.below A,PM.of_below A⟩
theorem Pk{x:bB}(B:oL E.bs E.l p=x):Calls Tryz.prog 137 #[.pointer (some ⟨E.gp,0,none⟩)] w fun e w'=>e= .returned (.string (bf x))/\Ae E w v p w':=by
 subst hst;refine(Yr E hE v w hpw).mono ?_;rintro e w' ⟨rfl,A⟩;exact⟨by rw[B],v,rfl,hpw.below A,PM.of_below A⟩
theorem Xp{b:Bool}(B:EA E.bs E.l p=b):Calls Tryz.prog 136 #[.pointer (some ⟨E.gp,0,none⟩)] w fun e w'=>e= .returned (.bool b)/\Ae E w v p w':=by
 subst hst;refine(Ur E hE v w hpw).mono ?_;rintro e w' ⟨rfl,A⟩;exact⟨by rw[B],v,rfl,hpw.below A,PM.of_below A⟩
theorem Ut(B:Nat)(C:B<=7){b:Bool}(D:yY E.bs E.l p B=b):Calls Tryz.prog 186 #[.pointer (some ⟨E.gp,0,none⟩),.int .i64 (B:Int)] w fun e w'=>e= .returned (.bool b)/\Ae E w v p w':=by
 subst hst;refine(Rp E hE v B w hpw C).mono ?_;rintro e w' ⟨rfl,A⟩;exact⟨by rw[D],v,rfl,hpw.below A,PM.of_below A⟩
theorem wP(C:bM E.l p≠5):Calls Tryz.prog 70 #[.pointer (some ⟨E.gp,0,none⟩)] w fun e w'=>e= .returned (.string (bf (bK E.bs E.l p.k)))/\Ae E w v (aB E.l p) w':=by
 subst hst;refine(rf E hE v w hpw C).mono ?_;rintro e w' ⟨rfl,A,B⟩;exact⟨rfl,_,rfl,A,B⟩
theorem Oz(c:Int)(x:bB):Calls Tryz.prog 69 #[.pointer (some ⟨E.gp,0,none⟩),.int .i64 c,.string (bf x)] w fun e w'=>(∃u,e= .returned u)/\Ae E w v (iI E.l p c x) w':=by
 subst hst;exact tu E hE v c x w hpw
end
theorem IA{s:bB}{l:List kD}{p:PS}{x:bB}(h:bF s l p x=true):bM l p≠5:=by
 unfold bF at h;simp at h;exact h.1
theorem lit2P{w:World}{P:Nat->Prop}{I J:ae}{a b c d e B C D F G:Value}(h:aC w P I [a,b,c,d,e])(K:aC w P J [B,C,D,F,G])(L:P w.heap.size)(k:Int)(x:ByteArray)(at_ A:Int):
 aC (w.alloc (.cells #[a,b,c,d,e,B,C,D,F,G] 24)) P (.node k x at_ A [I,J]) [.int .i64 k,.string x,.int .i64 at_,.int .i64 A,.slice (some ⟨w.heap.size,0,none⟩) 2 2]:=by
 have H:bZ P w (w.alloc (.cells #[a,b,c,d,e,B,C,D,F,G] 24)):=bZ.of_below (ag _ _);refine⟨some ⟨w.heap.size,0,none⟩,2,[[a,b,c,d,e],[B,C,D,F,G]],rfl,?_,fun g M=>?_,_,_,rfl,aC.keeps H _ _ h,_,_,rfl,aC.keeps H _ _ K,rfl⟩
 ·exact aK.block (base:=0) (e:=24) (size:=5) (n:=2) (Nat.zero_le _) (aj.new w 24 _) (by simp only[maxLen];omega) (by simp)
 ·have:g=w.heap.size:=by simpa [Value.ownBlock] using M.symm
  rw[this];exact L
theorem Zk{s:bB}{l:List kD}{p:PS}{A:Nat}(h:yY s l p A=true):bM l p≠5:=by
 unfold yY at h;simp at h;exact h.1
theorem exprs_any(E:PE)(hE:E.Ok)(f:Nat)(IH:∀f',f'<=f->yT E f')(C:Nat)(hl3:C≠3)(Ve:C≠7)(hl1:1<=C)(hlm:C<=7)(v:PV)(w:World)(t:ae)(q:PS)(hpw:PW w E v)(hr:aP E.bs E.l (f+1) (.expr C) v.st=some ([t],q)):Calls Tryz.prog 134 #[.pointer (some ⟨E.gp,0,none⟩),.int .i64 (C:Int)] w (bD E w v (t,q)):=by
 rw[aP,if_neg hl3,if_neg Ve]at hr;obtain⟨x0,q0,hx0,hxl⟩:=fA hr;have HX0:=kH hx0;have VI:=kH hxl;have fE:=kH IH;have HL:Hid (C+1<=7/\1<=C):=kH ⟨by omega,hl1⟩;have e3:((C:Int)==3)=false:=by simp;omega
 have e7:((C:Int)==7)=false:=by simp;omega
 have hwr:IntKind.i64.wrap ((C:Int)+1)=((C+1:Nat):Int):=by rw[IntWalk.i64_in _ (by omega)];omega
 obtain⟨b4,j⟩:∃b,decide (C=4)=b:=⟨_,rfl⟩
 have e4:((C:Int)==4)=b4:=by rw[<- j,Bool.eq_iff_iff];simp;omega
 have oN:=kH j;clear hr hx0 hxl IH hl3 Ve hl1 hlm j;have hgl:=hpw.blk.lt;have hk2:w.cell? ⟨E.gp,2,none⟩=some (.int .i64 (v.st.k:Int)):=hpw.blk.cell 2;go_in
 go_wp2_with fail
 generalize R:w.alloc (.cells #[.int .i64 0,.string ⟨#[]⟩,.int .i64 0,.int .i64 0,.slice none 0 0] 24)=W1
 have m:Below w.heap.size w W1:=by rw[<- R];exact ag _ _
 have iE:aj W1 w.heap.size 24 #[.int .i64 0,.string ⟨#[]⟩,.int .i64 0,.int .i64 0,.slice none 0 0]:=by rw[<- R];exact aj.new w _ _
 have hs1:W1.heap.size=w.heap.size+1:=by rw[<- R];simp
 have d:=PM.of_below (E:=E) (v:=v) m;have h1:=hpw.below m;have P1:=d;have pR:=kH hs1;have jK:=kH d;clear R hs1 d m;clear hk2;have TI:Hid (v.st=v.st):=kH rfl;have B:=(fE.out f (aab _)).expr (C+1) v W1 x0 q0 h1 (by omega) HL.out.1 HX0.out;have HC:=kH B;clear B;go_wp2_with fail
 refine(HC.out).mono ?_;rintro e H ⟨k2,t2,a2,z2,A2,n2,c2,rfl,mV,v2,hv2,Z,c⟩;try dsimp only at hv2 mV
 have fU:=kH hv2;have n:=c.blk h1 iE;have P2:=P1.trans c;replace mV:=aC.weak (Q:=fun g=>w.heap.size+1<=g) (fun g _ hg=>aac iE.lt hg) _ _ mV
 clear hv2 c;go_wp2_with fail
 replace mV:=aC.weak (Q:=fun g=>w.heap.size+1<=g/\g≠H.heap.size) (fun g hg U=>⟨U,by omega⟩) _ _ mV
 generalize S:H.alloc (.cells #[.int .i64 k2,.string t2,.int .i64 a2,.int .i64 z2,.slice A2 n2 c2] 24)=w3
 have T:Below H.heap.size H w3:=by rw[<- S];exact ag _ _
 have X2:gZ w3 _ H.heap.size _ (.int .i64 k2) (.string t2) (.int .i64 a2) (.int .i64 z2) (.slice A2 n2 c2):=⟨by rw[<- S];exact aj.new H _ _,aC.keeps (bZ.of_below T) _ _ mV⟩
 have hs3:w3.heap.size=H.heap.size+1:=by rw[<- S];simp
 have h3:=Z.below T;have cZ:=n.below T n.lt;have P3:=P2.trans (PM.of_below T);obtain⟨v3,hv3⟩:∃vv,vv=v2:=⟨_,rfl⟩
 have fO:=fU;rw[<- hv3]at h3 P3 fO;try rw[<- hs3]
 clear hv3 S mV hs3;have hrl:=n.lt;go_loopg [] f (fun gk wr=> ∃I k7 t7 a7 z7 A7 n7 c7 vx,gZ wr (fun g=>w.heap.size+1<=g/\g≠H.heap.size) H.heap.size I (.int .i64 k7) (.string t7) (.int .i64 a7) (.int .i64 z7) (.slice A7 n7 c7)/\gk<=f/\aP E.bs E.l gk (.xZ C v.st.k I) vx.st=some ([t],q)/\PW wr E vx/\PM E w v wr vx/\aj wr w.heap.size 24 #[.int .i64 0,.string ⟨#[]⟩,.int .i64 0,.int .i64 0,.slice none 0 0])
 case atStart=>exact⟨x0,k2,t2,a2,z2,A2,n2,c2,v3,X2,aab _,by rw[fO.out];exact VI.out,h3,P3,cZ⟩
 case round=>
  obtain⟨I,k7,t7,a7,z7,A7,n7,c7,G,D,hgf,V,h7,P7,fD⟩:=hrel
  cases gk with
  | zero=>simp[aP]at V
  | succ gk=>
   rw[aP]at V;have rZ:=kH V;obtain⟨b,hb⟩:∃x,yY E.bs E.l G.st C=x:=⟨_,rfl⟩
   have HB:=kH hb;have HGF:Hid (gk<=f):=kH (by omega);clear V hb hgf;go_wp2_with fail
   have lT:Hid (G.st=G.st):=kH rfl;refine(Ut E hE G _ h7 lT.out C (by have:=HL.out.1;omega) HB.out).mono ?_;rintro e w8 ⟨rfl,v8,ed,h8,dY⟩;have gQ:=kH ed;have eF:=dY.blk h7 fD;have P8:=P7.trans dY;replace D:=D.pm dY h7
   clear ed dY;cases b
   ·have hq:I=t/\G.st=q:=by
     have:=rZ.out;rw[HB.out,if_neg (by simp)]at this;simpa using this
    obtain⟨rfl,hq⟩:=hq;rw[hq]at gQ;obtain⟨⟨Xk,Xi,Xg,Xe,Xc⟩,Xa,WX,WV,WT,WR⟩:=D.1.five;have WO:=D.1.lt;obtain⟨⟨r0,r1,r2,r3,r4⟩,g0,g1,g2,g3,g4⟩:=eF.five;clear hq;go_wp2_with fail
    have aO:=kH (bJ (v:=v) h8 P8 gQ.out eF hgl (aC.weak (fun g _ U=>U.1) _ _ D.2));refine bodyPost_ret (v:=.agg #[.int .i64 k7,.string t7,.int .i64 a7,.int .i64 z7,.slice A7 n7 c7]) (by simp[results,Tryz.results134,go_sem,r0,r1,r2,r3,r4]) rfl ?_;exact aO.out
   ·obtain⟨J,q9,hx,hnx⟩:∃J q9,aP E.bs E.l gk (.expr (C+1)) (aB E.l G.st)=some ([J],q9)/\(if C=4 then t=aI E.l q9 v.st.k 29 (bK E.bs E.l G.st.k) [I,J]/\q=q9 else aP E.bs E.l gk (.xZ C v.st.k (aI E.l q9 v.st.k 29 (bK E.bs E.l G.st.k) [I,J])) q9=some ([t],q)):=by
     have:=rZ.out;rw[HB.out,if_pos rfl]at this;obtain⟨x,p,h1,Z⟩:=fA this;refine⟨x,p,h1,?_⟩;by_cases h4:C=4
     ·rw[if_pos h4]at Z⊢
      simp at Z;exact⟨Z.1.symm,Z.2.symm⟩
     ·rw[if_neg h4]at Z⊢
      exact Z
    have HX:=kH hx;have bG:=kH hnx;clear hx hnx;go_wp2_with fail
    refine(wP E hE v8 _ h8 gQ.out (Zk HB.out)).mono ?_;rintro e w9 ⟨rfl,v9,gX,h9,fZ⟩;have kE:=kH gX;have eU:=fZ.blk h8 eF;have P9:=P8.trans fZ;replace D:=D.pm fZ h8
    clear gX fZ;have B:=(fE.out gk (by have:=HGF.out;omega)).expr (C+1) v9 w9 J q9 h9 (by omega) HL.out.1 (by rw[kE.out];exact HX.out);have HC9:=kH B;clear B;go_wp2_with fail
    have hg9:H.heap.size<w9.heap.size:=D.1.lt;refine(HC9.out).mono ?_;rintro e aV ⟨k10,t10,BV,Bd,lJ,n10,r,rfl,kK,v10,gy,h10,eT⟩;try dsimp only at gy kK
    have jc:=kH gy;have dN:=eT.blk h9 eU;have jV:=P9.trans eT;replace kK:=aC.weak (Q:=fun g=>w.heap.size+1<=g/\g≠H.heap.size) (fun g _ hg=>⟨aac eU.lt hg,by omega⟩) _ _ kK
    replace D:=D.pm eT h9
    clear gy eT;have hsz:=jV.since.size;obtain⟨⟨Xk,Xi,Xg,Xe,Xc⟩,Xa,WX,WV,WT,WR⟩:=D.1.five;have WO:=D.1.lt;go_wp2_with fail
    clear Xk Xi Xg Xe Xc Xa WX WV WT WR WO;generalize uK:aV.alloc (.cells #[.int .i64 k10,.string t10,.int .i64 BV,.int .i64 Bd,.slice lJ n10 r] 24)=jB
    have il:Below aV.heap.size aV jB:=by rw[<- uK];exact ag _ _
    have BX:gZ jB _ aV.heap.size _ (.int .i64 k10) (.string t10) (.int .i64 BV) (.int .i64 Bd) (.slice lJ n10 r):=⟨by rw[<- uK];exact aj.new aV _ _,aC.keeps (bZ.of_below il) _ _ kK⟩
    have Dl:jB.heap.size=aV.heap.size+1:=by rw[<- uK];simp
    have h11:=h10.below il;have jh:=dN.below il dN.lt;have rY:=jV.trans (PM.of_below il);replace D:=D.below il
    obtain⟨A,lX⟩:∃vv,vv=v10:=⟨_,rfl⟩
    have nK:=jc;rw[<- lX]at h11 rY nK;try rw[<- Dl]
    clear lX uK kK Dl;have N:w.heap.size+1<=jB.heap.size:=by have:=jh.lt;omega
    have hg11:H.heap.size<jB.heap.size:=D.1.lt;have pK:=kH (zk (aC.weak (fun g _ U=>U.1) _ _ D.2) (aC.weak (fun g _ U=>U.1) _ _ BX.2) N);have K:=fun k x a e=>lit2P D.2 BX.2 (P:=fun g=>w.heap.size+1<=g/\g≠H.heap.size) ⟨N,by omega⟩ k x a e
    generalize zR:jB.alloc (.cells #[.int .i64 k7,.string t7,.int .i64 a7,.int .i64 z7,.slice A7 n7 c7,.int .i64 k10,.string t10,.int .i64 BV,.int .i64 Bd,.slice lJ n10 r] 24)=nA at pK K⊢
    have tK:Below jB.heap.size jB nA:=by rw[<- zR];exact ag _ _
    have h12:=h11.below tK;have jb:=jh.below tK jh.lt;have nH:=rY.trans (PM.of_below tK);have L:=D.1.below tK hg11;clear zR;refine(Kt E hE A _ h12 v.st.k 29 (bK E.bs E.l G.st.k) (w.heap.size+1) (some ⟨jB.heap.size,0,none⟩) 2 2 [I,J] pK.out).mono ?_;rintro e vg ⟨rfl,ik⟩;have qj:=h12.below ik;have lZ:=jb.below ik jb.lt;have Hr:=nH.trans (PM.of_below ik);have M:=L.below ik L.lt;have y:=aC.keeps (bZ.of_below ik) _ _ (K 29 (bf (bK E.bs E.l G.st.k)) (bP E.l A.st v.st.k [I,J]) (A.st.last:Int));obtain⟨zA,TB,z,Ya⟩:=wO qj Hr M (by have:=D.1.lt;omega) (.int .i64 29) (.string (bf (bK E.bs E.l G.st.k))) (.int .i64 (bP E.l A.st v.st.k [I,J])) (.int .i64 (A.st.last:Int)) (.slice (some ⟨jB.heap.size,0,none⟩) 2 2);have wI:=lZ.keep (Ya w.heap.size _ (by omega) lZ);have u:=aC.keeps (w':=fw vg H.heap.size (.int .i64 29) (.string (bf (bK E.bs E.l G.st.k))) (.int .i64 (bP E.l A.st v.st.k [I,J])) (.int .i64 (A.st.last:Int)) (.slice (some ⟨jB.heap.size,0,none⟩) 2 2)) (fun g cs hP hc=>Ya g cs hP.2 hc) _ _ y;have H14:=kH zA;have Y:=kH TB;have HB14:=kH z;have X:=kH wI;have W:=kH u;have HV11':=kH (nK.out.symm);obtain⟨⟨q0,q1,q2,q3,q4⟩,Ja,I9,I8,I7,I6⟩:=M.five;obtain⟨⟨r0,r1,r2,r3,r4⟩,g0,g1,g2,g3,g4⟩:=lZ.five;have hl13:=M.lt;have hlr13:=lZ.lt;clear zA TB z Ya u y K L wI D BX;cases b4
    ·have F:=bG.out
     rw[if_neg (of_decide_eq_false oN.out)]at F;have O:=kH F;clear F;go_wp2_with fail
     go_roundg gk
     case measure=>omega
     case rel=>exact⟨_,29,_,_,_,_,2,2,A,⟨HB14.out,W.out⟩,HGF.out,by have:=O.out;rw[<- nK.out]at this;exact this,H14.out,Y.out,X.out⟩
    ·have F:=bG.out
     rw[if_pos (of_decide_eq_true oN.out)]at F;have O:=kH F;clear F;go_wp2_with fail
     have aO:=kH (bJ (v:=v) H14.out Y.out nK.out X.out hgl (aC.weak (fun g _ U=>U.1) _ _ W.out));refine bodyPost_ret (v:=.agg #[.int .i64 29,.string (bf (bK E.bs E.l G.st.k)),.int .i64 (bP E.l A.st v.st.k [I,J]),.int .i64 (A.st.last:Int),.slice (some ⟨jB.heap.size,0,none⟩) 2 2]) (by simp[results,Tryz.results134,go_sem,r0,r1,r2,r3,r4]) rfl ?_;have e1:t=ae.node 29 (bf (bK E.bs E.l G.st.k)) (bP E.l A.st v.st.k [I,J]) (A.st.last:Int) [I,J]:=by rw[O.out.1,<- nK.out];rfl
     rw[e1,O.out.2];exact aO.out
theorem Ul(E:PE)(hE:E.Ok)(v:PV)(w:World)(hpw:PW w E v){p:PS}(hst:v.st=p):Calls Tryz.prog 187 #[.pointer (some ⟨E.gp,0,none⟩)] w (bD E w v (nR E.bs E.l p)):=by
 subst hst;exact F8 E hE v w hpw
theorem Hl{s:bB}{l:List kD}(B:qY s l){p:PS}(h:oL s l p=[40]):bM l (aB l p)≠5:=by
 intro A;have:=B (p.k+1) A;unfold oL at h;split at h
 ·rw[this]at h
  cases h
 ·cases h
theorem bY.low{w:World}{lo lo':Nat}{v:Value}{n:Nat}{ts:List ae}(h:bY w lo v n ts)(A:lo'<=lo):bY w lo' v n ts:=by
 obtain⟨vals,C,D,F⟩:=h;exact⟨vals,C.mono A,bW.weak (fun g _ B=>⟨aac A B.1,B.2⟩) _ _ D,F⟩
theorem Uu(E:PE)(hE:E.Ok)(f:Nat)(IH:∀f',f'<=f->yT E f')(v:PV)(w:World)(t:ae)(q:PS)(hpw:PW w E v)(hr:aP E.bs E.l (f+1) .operand v.st=some ([t],q)):Calls Tryz.prog 185 #[.pointer (some ⟨E.gp,0,none⟩)] w (bD E w v (t,q)):=by
 rw[aP]at hr;have F:=kH hr;have fE:=kH IH;clear hr IH;obtain⟨i0,hi0,hz0,hz1,hz2⟩:=info_parts sF;have J:=hpw.blk.lt;have hk2:w.cell? ⟨E.gp,2,none⟩=some (.int .i64 (v.st.k:Int)):=hpw.blk.cell 2;obtain⟨k,hk⟩:∃x,bM E.l v.st=x:=⟨_,rfl⟩
 have HK:=kH hk;obtain⟨b1,hb1⟩:∃x,bF E.bs E.l v.st [116,114,117,101]=x:=⟨_,rfl⟩
 have HB1:=kH hb1;obtain⟨b2,hb2⟩:∃x,bF E.bs E.l v.st [102,97,108,115,101]=x:=⟨_,rfl⟩
 have HB2:=kH hb2;obtain⟨b3,hb3⟩:∃x,bF E.bs E.l v.st [91]=x:=⟨_,rfl⟩
 have HB3:=kH hb3;obtain⟨b4,hb4⟩:∃x,bF E.bs E.l v.st [108,101,110]=x:=⟨_,rfl⟩
 have oN:=kH hb4;obtain⟨b5,hb5⟩:∃x,bF E.bs E.l v.st [40]=x:=⟨_,rfl⟩
 have gG:=kH hb5;clear hk hb1 hb2 hb3 hb4 hb5;go_in
 go_wp2_with fail
 generalize hW1:w.alloc (.cells #[.int .i64 0,.string ⟨#[]⟩,.int .i64 0,.int .i64 0,.slice none 0 0] 24)=W1
 have hb1:Below w.heap.size w W1:=by rw[<- hW1];exact ag _ _
 have iE:aj W1 w.heap.size 24 #[.int .i64 0,.string ⟨#[]⟩,.int .i64 0,.int .i64 0,.slice none 0 0]:=by rw[<- hW1];exact aj.new w _ _
 have hs1:W1.heap.size=w.heap.size+1:=by rw[<- hW1];simp
 have hm1:=PM.of_below (E:=E) (v:=v) hb1;have h1:=hpw.below hb1;have P1:=hm1;have pR:=kH hs1;have jK:=kH hm1;clear hW1 hs1 hm1 hb1;clear hk2;have TI:Hid (v.st=v.st):=kH rfl;refine(wT E hE v _ h1 TI.out HK.out).mono ?_;rintro e w2 ⟨rfl,v2,hv2,h2,hm2⟩;have fU:=kH hv2;have C:=hm2.blk h1 iE;have P2:=P1.trans hm2;clear hv2 hm2;by_cases hk2:k=2
 ·subst hk2
  go_wp2_with fail
  refine(wP E hE v2 _ h2 fU.out (by rw[HK.out];decide)).mono ?_;rintro e w3 ⟨rfl,v3,hv3,h3,eB⟩;have fO:=kH hv3;have cZ:=eB.blk h2 C;have P3:=P2.trans eB;clear hv3 eB;go_wp2_with fail
  refine(M3 (bf (bK E.bs E.l v.st.k)) _ (Og hE _)).mono ?_;rintro e w7 ⟨rfl,rfl⟩;have hdt:bf (gH (bf (bK E.bs E.l v.st.k)).data.toList)=bf (gH (bK E.bs E.l v.st.k)):=rfl;rw[hdt];clear hdt
  have N:Hid ((t,q)=(aI E.l (aB E.l v.st) v.st.k 24 (gH (bK E.bs E.l v.st.k)) [],aB E.l v.st)):=kH (by
   have:=F.out;rw[HK.out,if_pos rfl]at this;simp at this
   rw[<- this.1,<- this.2])
  go_wp2_with fail
  refine(iK E hE v3 _ h3 v.st.k 24 (gH (bK E.bs E.l v.st.k)) (w.heap.size+1)).mono ?_;rintro e w4 ⟨rfl,hb4,kZ⟩;have h4:=h3.below hb4;have ek:=cZ.below hb4 cZ.lt;obtain⟨⟨P,R,S,T,U⟩,g0,g1,g2,g3,g4⟩:=ek.five;go_wp2_with fail
  have M:=kH (bJ (v:=v) h4 (P3.trans (PM.of_below hb4)) rfl ek J kZ);clear kZ;refine bodyPost_ret (v:=.agg #[.int .i64 24,.string (bf (gH (bK E.bs E.l v.st.k))),.int .i64 (bP E.l v3.st v.st.k []),.int .i64 (v3.st.last:Int),.slice none 0 0]) (by simp[results,Tryz.results185,go_sem,P,R,S,T,U]) rfl ?_;exact Eq.mp (congrArg (fun r=>bD E w v r _ _) (show(aI E.l v3.st v.st.k 24 (gH (bK E.bs E.l v.st.k)) [],v3.st)=_ by rw[fO.out,N.out])) M.out
 have hki:((k:Int)==2)=false:=by simp;omega
 have hkn:(k==2)=false:=by simp[hk2]
 have C:=F.out;rw[if_neg (by rw[HK.out];exact hk2)]at C;replace F:=kH C
 clear C hk2;go_wp2_with fail
 refine(Cy E hE v2 _ h2 fU.out [116,114,117,101] HB1.out).mono ?_;rintro e w3 ⟨rfl,v3,hv3,h3,eB⟩;have fO:=kH hv3;have cZ:=eB.blk h2 C;have P3:=P2.trans eB;clear hv3 eB;cases b1
 case true=>
  have N:Hid ((t,q)=(aI E.l (aB E.l v.st) v.st.k 25 (bK E.bs E.l v.st.k) [],aB E.l v.st)):=kH (by
   have:=F.out;rw[HB1.out,if_pos (by simp)]at this;simp at this
   rw[<- this.1,<- this.2])
  go_wp2_with fail
  refine(wP E hE v3 _ h3 fO.out (IA HB1.out)).mono ?_;rintro e w4 ⟨rfl,v4,hv4,h4,iD⟩;have jf:=kH hv4;have ek:=iD.blk h3 cZ;have P4:=P3.trans iD;clear hv4 iD;go_wp2_with fail
  refine(iK E hE v4 _ h4 v.st.k 25 (bK E.bs E.l v.st.k) (w.heap.size+1)).mono ?_;rintro e w5 ⟨rfl,hb5,jU⟩;have h5:=h4.below hb5;have eZ:=ek.below hb5 ek.lt;obtain⟨⟨P,R,S,T,U⟩,g0,g1,g2,g3,g4⟩:=eZ.five;go_wp2_with fail
  have M:=kH (bJ (v:=v) h5 (P4.trans (PM.of_below hb5)) rfl eZ J jU);clear jU;refine bodyPost_ret (v:=.agg #[.int .i64 25,.string (bf (bK E.bs E.l v.st.k)),.int .i64 (bP E.l v4.st v.st.k []),.int .i64 (v4.st.last:Int),.slice none 0 0]) (by simp[results,Tryz.results185,go_sem,P,R,S,T,U]) rfl ?_;exact Eq.mp (congrArg (fun r=>bD E w v r _ _) (show(aI E.l v4.st v.st.k 25 (bK E.bs E.l v.st.k) [],v4.st)=_ by rw[jf.out,N.out])) M.out
 go_wp2_with fail
 refine(Cy E hE v3 _ h3 fO.out [102,97,108,115,101] HB2.out).mono ?_;rintro e w4 ⟨rfl,v4,hv4,h4,iD⟩;have jf:=kH hv4;have ek:=iD.blk h3 cZ;have P4:=P3.trans iD;clear hv4 iD;cases b2
 case true=>
  have N:Hid ((t,q)=(aI E.l (aB E.l v.st) v.st.k 25 (bK E.bs E.l v.st.k) [],aB E.l v.st)):=kH (by
   have:=F.out;rw[HB1.out,HB2.out,if_pos (by simp)]at this;simp at this
   rw[<- this.1,<- this.2])
  go_wp2_with fail
  refine(wP E hE v4 _ h4 jf.out (IA HB2.out)).mono ?_;rintro e w5 ⟨rfl,v5,hv5,h5,iC⟩;have HV5:=kH hv5;have eZ:=iC.blk h4 ek;have P5:=P4.trans iC;clear hv5 iC;go_wp2_with fail
  refine(iK E hE v5 _ h5 v.st.k 25 (bK E.bs E.l v.st.k) (w.heap.size+1)).mono ?_;rintro e w6 ⟨rfl,hb6,ry⟩;have h6:=h5.below hb6;have gI:=eZ.below hb6 eZ.lt;obtain⟨⟨P,R,S,T,U⟩,g0,g1,g2,g3,g4⟩:=gI.five;go_wp2_with fail
  have M:=kH (bJ (v:=v) h6 (P5.trans (PM.of_below hb6)) rfl gI J ry);clear ry;refine bodyPost_ret (v:=.agg #[.int .i64 25,.string (bf (bK E.bs E.l v.st.k)),.int .i64 (bP E.l v5.st v.st.k []),.int .i64 (v5.st.last:Int),.slice none 0 0]) (by simp[results,Tryz.results185,go_sem,P,R,S,T,U]) rfl ?_;exact Eq.mp (congrArg (fun r=>bD E w v r _ _) (show(aI E.l v5.st v.st.k 25 (bK E.bs E.l v.st.k) [],v5.st)=_ by rw[HV5.out,N.out])) M.out
 have C:=F.out;rw[HB1.out,HB2.out,if_neg (by simp)]at C;replace F:=kH C
 clear C;go_wp2_with fail
 refine(wT E hE v4 _ h4 jf.out HK.out).mono ?_;rintro e w5 ⟨rfl,v5,hv5,h5,iC⟩;have HV5:=kH hv5;have eZ:=iC.blk h4 ek;have P5:=P4.trans iC;clear hv5 iC;by_cases hk0:k=0
 ·subst hk0
  obtain⟨x,hx⟩:∃x,oL E.bs E.l v.st=x:=⟨_,rfl⟩
  have HX:=kH hx;clear hx;go_wp2_with fail
  refine(Pk E hE v5 _ h5 HV5.out HX.out).mono ?_;rintro e w6 ⟨rfl,v6,hv6,h6,gU⟩;have lU:=kH hv6;have gI:=gU.blk h5 eZ;have P6:=P5.trans gU;clear hv6 gU;by_cases zO:x=[40]
  ·subst zO
   obtain⟨D,X,hy,O⟩:∃D X,aP E.bs E.l f .args (aB E.l v.st)=some (D,X)/\(t,q)=(aI E.l X v.st.k 27 (bK E.bs E.l v.st.k) D,X):=by
    have:=F.out;rw[if_pos (by rw[HK.out,HX.out];simp)]at this;obtain⟨ks,p,h1,h2⟩:=wR this;simp at h2;exact⟨ks,p,h1,by rw[<- h2.1,<- h2.2]⟩
   have HY:=kH hy;have N:=kH O;have e40:bf [40]=⟨#[40]⟩:=rfl;rw[e40];clear hy O e40;go_wp2_with fail
   refine(wP E hE v6 _ h6 lU.out (by rw[HK.out];decide)).mono ?_;rintro e w7 ⟨rfl,v7,H,h7,z⟩;have lT:=kH H;have fD:=z.blk h6 gI;have P7:=P6.trans z;clear H z;have B:=(fE.out f (aab _)).args v7 w7 D X h7 (by rw[lT.out];exact Hl hE.empty HX.out) (by rw[lT.out];exact HY.out);have HC:=kH B;clear B;go_wp2_with fail
   refine HC.out.mono ?_;rintro e w8 ⟨A8,n8,c8,rfl,hK8,v8,W,h8,I⟩;have gQ:=kH W;have b:=I.blk h7 fD;have P8:=P7.trans I;have nQ:=kH (hK8.low (lo':=w.heap.size+1) fD.lt);clear W I hK8;go_wp2_with fail
   refine(dV E hE v8 _ h8 v.st.k 27 (bK E.bs E.l v.st.k) (w.heap.size+1) A8 n8 c8 D nQ.out).mono ?_;rintro e w9 ⟨rfl,eP,nE⟩;have h9:=h8.below eP;have eU:=b.below eP b.lt;obtain⟨⟨P,R,S,T,U⟩,g0,g1,g2,g3,g4⟩:=eU.five;go_wp2_with fail
   have M:=kH (bJ (v:=v) h9 (P8.trans (PM.of_below eP)) rfl eU J nE);clear nE;refine bodyPost_ret (v:=.agg #[.int .i64 27,.string (bf (bK E.bs E.l v.st.k)),.int .i64 (bP E.l v8.st v.st.k D),.int .i64 (v8.st.last:Int),.slice A8 n8 c8]) (by simp[results,Tryz.results185,go_sem,P,R,S,T,U]) rfl ?_;exact Eq.mp (congrArg (fun r=>bD E w v r _ _) (show(aI E.l v8.st v.st.k 27 (bK E.bs E.l v.st.k) D,v8.st)=_ by rw[N.out,gQ.out])) M.out
  ·obtain⟨wd,hwd⟩:∃y,bf x=y:=⟨_,rfl⟩
   have hwf:(wd.data.toList==[40])=false:=by rw[<- hwd];simpa [bf] using zO
   have hwf2:(wd.toList==[40])=false:=by rw[ByteArray.toList_eq];exact hwf
   rw[hwd];have C:=F.out;rw[if_neg (by rw[HK.out,HX.out];simp[zO]),if_pos HK.out]at C;replace F:=kH C
   clear C hwd zO;go_wp2_with fail
   refine(wT E hE v6 _ h6 lU.out HK.out).mono ?_;rintro e w7 ⟨rfl,v7,H,h7,z⟩;have lT:=kH H;have fD:=z.blk h6 gI;have P7:=P6.trans z;clear H z;have B:=(fE.out f (aab _)).place v7 w7 t q h7 (by rw[lT.out];exact F.out);have HC:=kH B;clear B;go_wp2_with fail
   refine(HC.out).mono ?_;rintro e w8 ⟨k8,t8,a8,z8,A8,n8,c8,rfl,sM,v8,W,h8,I⟩;try dsimp only at W sM
   have gQ:=kH W;have b:=I.blk h7 fD;have P8:=P7.trans I;replace sM:=aC.weak (Q:=fun g=>w.heap.size+1<=g) (fun g _ hg=>aac fD.lt hg) _ _ sM
   clear W I;have N:=trivial;obtain⟨⟨P,R,S,T,U⟩,g0,g1,g2,g3,g4⟩:=b.five;go_wp2_with fail
   have M:=kH (bJ (v:=v) h8 P8 rfl b J sM);clear sM;rw[gQ.out]at M;refine bodyPost_ret (v:=.agg #[.int .i64 k8,.string t8,.int .i64 a8,.int .i64 z8,.slice A8 n8 c8]) (by simp[results,Tryz.results185,go_sem,P,R,S,T,U]) rfl ?_;try rw[N.out]
   exact M.out
 have X0:((k:Int)==0)=false:=by simp;omega
 have XZ:(k==0)=false:=by simp[hk0]
 have C:=F.out;rw[if_neg (by rw[HK.out];simp[hk0]),if_neg (by rw[HK.out];exact hk0)]at C;replace F:=kH C
 clear C hk0;go_wp2_with fail
 refine(wT E hE v5 _ h5 HV5.out HK.out).mono ?_;rintro e w6 ⟨rfl,v6,hv6,h6,gU⟩;have lU:=kH hv6;have gI:=gU.blk h5 eZ;have P6:=P5.trans gU;clear hv6 gU;go_wp2_with fail
 cases b3
 case true=>
  obtain⟨x8,q8,D,X,hx,hy,O⟩:∃x q8 D X,aP E.bs E.l f (.expr 1) (aB E.l v.st)=some ([x],q8)/\aP E.bs E.l f (.qR [x]) q8=some (D,X)/\(t,q)=(aI E.l (aL E.bs E.l X [93]) v.st.k 26 [] D,aL E.bs E.l X [93]):=by
   have:=F.out;rw[HB3.out,if_pos rfl]at this;obtain⟨x,p,h1,h2⟩:=fA this;obtain⟨ks,p2,h3,h4⟩:=wR h2;simp at h4;exact⟨x,p,ks,p2,h1,h3,by rw[<- h4.1,<- h4.2]⟩
  have HX:=kH hx;have HY:=kH hy;have N:=kH O;clear hx hy O F;refine(pJ E hE v6 _ h6 lU.out [91] HB3.out).mono ?_;rintro e w7 ⟨rfl,v7,H,h7,z⟩;have lT:=kH H;have fD:=z.blk h6 gI;have P7:=P6.trans z;clear H z;have B:=(fE.out f (aab _)).expr 1 v7 w7 x8 q8 h7 (by omega) (by omega) (by rw[lT.out];exact HX.out);have HC:=kH B;clear B;go_wp2_with fail
  refine(HC.out).mono ?_;rintro e w8 ⟨k8,t8,a8,z8,A8,n8,c8,rfl,sM,v8,W,h8,I⟩;try dsimp only at W sM
  have gQ:=kH W;have b:=I.blk h7 fD;have P8:=P7.trans I;replace sM:=aC.weak (Q:=fun g=>w.heap.size+1<=g) (fun g _ hg=>aac fD.lt hg) _ _ sM
  clear W I;go_wp2_with fail
  have Ib:=kH (j5 sM (by have:=b.lt;omega));generalize qP:w8.alloc (.cells #[.int .i64 k8,.string t8,.int .i64 a8,.int .i64 z8,.slice A8 n8 c8] 24)=w9 at Ib⊢
  have eP:Below w8.heap.size w8 w9:=by rw[<- qP];exact ag _ _
  have h9:=h8.below eP;have eU:=b.below eP b.lt;have P9:=P8.trans (PM.of_below eP);clear qP;go_loopg [6] f (fun gk s6 wr=> ∃A n c vx ts,s6= .slice A n c/\bY wr (w.heap.size+1) (.slice A n c) n ts/\gk<=f/\aP E.bs E.l gk (.qR ts) vx.st=some (D,X)/\n<=vx.st.k+1/\PW wr E vx/\PM E w v wr vx/\aj wr w.heap.size 24 #[.int .i64 0,.string ⟨#[]⟩,.int .i64 0,.int .i64 0,.slice none 0 0])
  case atStart=>exact⟨_,1,_,v8,[x8],rfl,Ib.out,aab _,by rw[gQ.out];exact HY.out,by omega,h9,P9,eU⟩
  case round=>
   obtain⟨Ug,K,c17,v17,ND,rfl,hK17,hgf,XK,hn17,FJ,Ni,GX⟩:=hrel
   cases gk with
   | zero=>simp[aP]at XK
   | succ gk=>
    rw[aP]at XK;have HX17:=kH XK;have N9:=kH hK17;have hat17:=FJ.at_;have Ay:=hE.most;clear XK hK17;obtain⟨b7,dF⟩:∃x,bF E.bs E.l v17.st [44]=x:=⟨_,rfl⟩
    have gK:=kH dF;clear dF;go_wp2_with fail
    refine(gm E hE v17 [44] _ FJ).mono ?_;rintro e w18 ⟨rfl,v18,hv18,Z,hm18⟩;rw[gK.out];have HV18:=kH hv18;have GV:=hm18.blk FJ GX;have P18:=Ni.trans hm18;have TU:=kH (N9.out.keeps (hm18.dX FJ));clear hv18 hm18;cases b7
    ·have hst:v18.st=v17.st:=by
      rw[HV18.out];unfold bI;rw[gK.out,if_neg (by simp)]
     have hkk:ND=D/\v17.st=X:=by
      have:=HX17.out;rw[gK.out,if_neg (by simp)]at this;simpa using this
     obtain⟨rfl,vM⟩:=hkk;have Hu:=kH (hst.trans vM);clear hst vM;go_wp2_with fail
     refine(kM E hE v18 [93] _ Z).mono ?_;rintro e nA ⟨rfl,V,lC,h12,iL⟩;have nT:=kH lC;rw[Hu.out]at nT;have jb:=iL.blk Z GV;have nH:=P18.trans iL;have pK:=kH (TU.out.keeps (iL.dX Z));clear lC iL;go_wp2_with fail
     refine(dV E hE V _ h12 v.st.k 26 [] (w.heap.size+1) Ug K c17 ND pK.out).mono ?_;rintro e vg ⟨rfl,ik,rQ⟩;have qj:=h12.below ik;have lZ:=jb.below ik jb.lt;obtain⟨⟨P,R,S,T,U⟩,g0,g1,g2,g3,g4⟩:=lZ.five;go_wp2_with fail
     have M:=kH (bJ (v:=v) qj (nH.trans (PM.of_below ik)) rfl lZ J rQ);clear rQ;refine bodyPost_ret (v:=.agg #[.int .i64 26,.string (bf []),.int .i64 (bP E.l V.st v.st.k ND),.int .i64 (V.st.last:Int),.slice Ug K c17]) (by simp[results,Tryz.results185,go_sem,P,R,S,T,U]) rfl ?_;exact Eq.mp (congrArg (fun r=>bD E w v r _ _) (show(aI E.l V.st v.st.k 26 [] ND,V.st)=_ by rw[N.out,nT.out])) M.out
    ·have hst:v18.st=aB E.l v17.st:=by
      rw[HV18.out];unfold bI;rw[gK.out,if_pos rfl]
     obtain⟨x9,q9,GD,hnx⟩:∃x9 q9,aP E.bs E.l gk (.expr 1) v18.st=some ([x9],q9)/\aP E.bs E.l gk (.qR (ND++[x9])) q9=some (D,X):=by
      have:=HX17.out;rw[gK.out,if_pos rfl,<- hst]at this;exact fA this
     have BG:v18.st.k=v17.st.k+1:=by rw[hst];rfl
     have hpr:=Cw hE.ends hE.empty GD (by rw[hE.len];exact Z.at_) ⟨by omega,by omega⟩;have hlt:=hpr.1.1;have B:=(fE.out gk (by omega)).expr 1 v18 w18 x9 q9 Z (by omega) (by omega) GD;have iN:=kH B;have bG:=kH hnx;have Lu:=kH BG;have Sa:K<=5001:=by omega
     have HGF:Hid (gk<=f):=kH (by omega);clear hst hpr GD B hnx BG;go_wp2_with fail
     refine iN.out.mono ?_;rintro e w19 ⟨k19,t19,a19,z19,A19,n19,c19,rfl,hT19,v19,hv19,h19,hm19⟩;have HV19:=kH hv19;have hR19:=hm19.blk Z GV;have P19:=P18.trans hm19;clear hv19;obtain⟨vals20,hO20,hTs20,hn20⟩:=TU.out.keeps (hm19.dX Z);have hTn20:aC w19 (fun g=>w.heap.size+1<=g/\some g≠(Value.slice Ug K c17).ownBlock) _ _:=aC.weak (fun g _ hg=>⟨aac GV.lt hg,fun e1=>by obtain⟨_,hO4,_,_⟩:=TU.out;have:=(hO4.lt g e1.symm).2;omega⟩) _ _ hT19;have hro20:(Value.slice Ug K c17).ownBlock≠some w.heap.size:=fun e1=>by have:=(hO20.lt _ e1).1;omega
     have hrz20:=hR19.lt;have HO20:=kH hO20;have HTs20:=kH hTs20;have HTn20:=kH hTn20;have Hn20:=kH hn20;have HRO20:=kH hro20;clear hO20 hTs20 hTn20 hn20 hro20 hT19;go_wp2_with (at_builtin;go_must (refine di _ rfl (.tmp 67) (.tmp 70) _ rfl (w.heap.size+1) 24 i0 _ 5 64 Tryz.underlying22 hi0 hz0 hz1 hz2 rfl (.slice Ug K c17) K (List.flatten vals20) rfl (HO20.out.alloc _) ⟨w19.heap.size,0,none⟩ 1 1 [.int .i64 k19,.string t19,.int .i64 a19,.int .i64 z19,.slice A19 n19 c19] rfl rfl (ji _ _ _ _ _ _ _ (by go_simp) (by go_simp) (by go_simp) (by go_simp) (by go_simp)) (by simp[Value.oneCell']) (by simp only[maxLen];omega) (by omega) (by simp;omega) ?_);intro vn w20 hown hgrow hat;obtain⟨A20,c20,nC,-,-⟩:=hown.shape;subst nC;have HOWN20:=kH hown;have VX:=kH hgrow;have HAT20:=kH hat;clear hown hgrow hat)
     have HK20:=kH (bY.pushed HTs20.out Hn20.out HTn20.out HOWN20.out VX.out HAT20.out);obtain⟨h20,P20,Vf⟩:=lG h19 P19 HO20.out (Nat.le_succ _) VX.out;have hR20:=Vf _ _ hR19 HRO20.out;clear Vf;go_roundg gk
     case measure=>omega
     case rel=>
      refine⟨A20,K+1,c20,v19,ND++[x9],rfl,HK20.out,HGF.out,by rw[HV19.out];exact bG.out,?_,h20,P20,hR20⟩;rw[HV19.out];have:=Lu.out;show K+1<=q9.k+1;omega
 have C:=F.out;rw[HB3.out,if_neg (by simp)]at C;replace F:=kH C
 clear C;refine(qV E hE v6 _ h6 lU.out [91] HB3.out).mono ?_;rintro e w7 ⟨rfl,v7,H,h7,z⟩;have lT:=kH H;have fD:=z.blk h6 gI;have P7:=P6.trans z;clear H z;go_wp2_with fail
 cases b4
 case true=>
  have N:Hid ((t,q)=(aI E.l (aL E.bs E.l (nR E.bs E.l (aL E.bs E.l (aB E.l v.st) [40])).2 [41]) v.st.k 23 [] [(nR E.bs E.l (aL E.bs E.l (aB E.l v.st) [40])).1],aL E.bs E.l (nR E.bs E.l (aL E.bs E.l (aB E.l v.st) [40])).2 [41])):=kH (by
   have:=F.out;rw[oN.out,if_pos rfl]at this;simp at this
   rw[<- this.1,<- this.2])
  clear F;refine(pJ E hE v7 _ h7 lT.out [108,101,110] oN.out).mono ?_;rintro e w8 ⟨rfl,v8,W,h8,I⟩;have gQ:=kH W;have b:=I.blk h7 fD;have P8:=P7.trans I;clear W I;go_wp2_with fail
  refine(kg E hE v8 _ h8 gQ.out [40]).mono ?_;rintro e w9 ⟨rfl,v9,gX,h9,fZ⟩;have kE:=kH gX;have eU:=fZ.blk h8 b;have P9:=P8.trans fZ;clear gX fZ;go_wp2_with fail
  refine(Ul E hE v9 _ h9 kE.out).mono ?_;rintro e d ⟨u,j,BV,Bd,lJ,m,Y,rfl,kK,L,gy,h10,eT⟩;try dsimp only at gy kK
  have jc:=kH gy;have dN:=eT.blk h9 eU;have jV:=P9.trans eT;replace kK:=aC.weak (Q:=fun g=>w.heap.size+1<=g) (fun g _ hg=>aac eU.lt hg) _ _ kK
  clear gy eT;go_wp2_with fail
  generalize uK:d.alloc (.cells #[.int .i64 u,.string j,.int .i64 BV,.int .i64 Bd,.slice lJ m Y] 24)=jB
  have il:Below d.heap.size d jB:=by rw[<- uK];exact ag _ _
  have BX:gZ jB _ d.heap.size _ (.int .i64 u) (.string j) (.int .i64 BV) (.int .i64 Bd) (.slice lJ m Y):=⟨by rw[<- uK];exact aj.new d _ _,aC.keeps (bZ.of_below il) _ _ kK⟩
  have Dl:jB.heap.size=d.heap.size+1:=by rw[<- uK];simp
  have G:=h10.below il;have jh:=dN.below il dN.lt;have rY:=jV.trans (PM.of_below il);obtain⟨v11,lX⟩:∃vv,vv=L:=⟨_,rfl⟩
  have nK:=jc;rw[<- lX]at G rY nK;try rw[<- Dl]
  clear lX uK kK Dl;refine(kg E hE v11 _ G nK.out [41]).mono ?_;rintro e nA ⟨rfl,V,lC,h12,iL⟩;have nT:=kH lC;have jb:=iL.blk G jh;have nH:=rY.trans iL;replace BX:=BX.pm iL G
  clear lC iL;obtain⟨⟨qaX10,qbX10,qcX10,qdX10,qeX10⟩,qgX10,qhX10,qiX10,qjX10,qkX10⟩:=BX.1.five;have qlX10:=BX.1.lt;go_wp2_with fail
  clear qaX10 qbX10 qcX10 qdX10 qeX10 qgX10 qhX10 qiX10 qjX10 qkX10 qlX10;have TV:=kH (j5 BX.2 (by have:=jb.lt;omega));generalize SH:nA.alloc (.cells #[.int .i64 u,.string j,.int .i64 BV,.int .i64 Bd,.slice lJ m Y] 24)=vg at TV⊢
  have ik:Below nA.heap.size nA vg:=by rw[<- SH];exact ag _ _
  have qj:=h12.below ik;have lZ:=jb.below ik jb.lt;have Hr:=nH.trans (PM.of_below ik);obtain⟨v13,zN⟩:∃vv,vv=V:=⟨_,rfl⟩
  have Fg:=nT;rw[<- zN]at qj Hr Fg;clear zN SH;refine(dV E hE v13 _ qj v.st.k 23 [] (w.heap.size+1) (some ⟨nA.heap.size,0,none⟩) 1 1 [(nR E.bs E.l (aL E.bs E.l (aB E.l v.st) [40])).1] TV.out).mono ?_;rintro e yu ⟨rfl,cO,BL⟩;have zA:=qj.below cO;have wI:=lZ.below cO lZ.lt;obtain⟨⟨P,R,S,T,U⟩,g0,g1,g2,g3,g4⟩:=wI.five;go_wp2_with fail
  have M:=kH (bJ (v:=v) zA (Hr.trans (PM.of_below cO)) rfl wI J BL);clear BL;refine bodyPost_ret (v:=.agg #[.int .i64 23,.string (bf []),.int .i64 (bP E.l v13.st v.st.k [(nR E.bs E.l (aL E.bs E.l (aB E.l v.st) [40])).1]),.int .i64 (v13.st.last:Int),.slice (some ⟨nA.heap.size,0,none⟩) 1 1]) (by simp[results,Tryz.results185,go_sem,P,R,S,T,U]) rfl ?_;exact Eq.mp (congrArg (fun r=>bD E w v r _ _) (show(aI E.l v13.st v.st.k 23 [] [(nR E.bs E.l (aL E.bs E.l (aB E.l v.st) [40])).1],v13.st)=_ by rw[N.out,Fg.out])) M.out
 have C:=F.out;rw[oN.out,if_neg (by simp)]at C;replace F:=kH C
 clear C;refine(qV E hE v7 _ h7 lT.out [108,101,110] oN.out).mono ?_;rintro e w8 ⟨rfl,v8,W,h8,I⟩;have gQ:=kH W;have b:=I.blk h7 fD;have P8:=P7.trans I;clear W I;go_wp2_with fail
 cases b5
 case true=>
  obtain⟨x9,q9,hx,O⟩:∃x X,aP E.bs E.l f (.expr 1) (aB E.l v.st)=some ([x],X)/\(t,q)=(x,aL E.bs E.l X [41]):=by
   have:=F.out;rw[gG.out,if_pos rfl]at this;obtain⟨x,p,h1,h2⟩:=fA this;simp at h2;exact⟨x,p,h1,by rw[<- h2.1,<- h2.2]⟩
  have HX:=kH hx;have N:=kH O;clear hx O F;refine(pJ E hE v8 _ h8 gQ.out [40] gG.out).mono ?_;rintro e w9 ⟨rfl,v9,gX,h9,fZ⟩;have kE:=kH gX;have eU:=fZ.blk h8 b;have P9:=P8.trans fZ;clear gX fZ;have B:=(fE.out f (aab _)).expr 1 v9 w9 x9 q9 h9 (by omega) (by omega) (by rw[kE.out];exact HX.out);have HC:=kH B;clear B;go_wp2_with fail
  refine(HC.out).mono ?_;rintro e d ⟨u,j,BV,Bd,lJ,m,Y,rfl,kK,L,gy,h10,eT⟩;try dsimp only at gy kK
  have jc:=kH gy;have dN:=eT.blk h9 eU;have jV:=P9.trans eT;replace kK:=aC.weak (Q:=fun g=>w.heap.size+1<=g) (fun g _ hg=>aac eU.lt hg) _ _ kK
  clear gy eT;go_wp2_with fail
  generalize uK:d.alloc (.cells #[.int .i64 u,.string j,.int .i64 BV,.int .i64 Bd,.slice lJ m Y] 24)=jB
  have il:Below d.heap.size d jB:=by rw[<- uK];exact ag _ _
  have BX:gZ jB _ d.heap.size _ (.int .i64 u) (.string j) (.int .i64 BV) (.int .i64 Bd) (.slice lJ m Y):=⟨by rw[<- uK];exact aj.new d _ _,aC.keeps (bZ.of_below il) _ _ kK⟩
  have Dl:jB.heap.size=d.heap.size+1:=by rw[<- uK];simp
  have G:=h10.below il;have jh:=dN.below il dN.lt;have rY:=jV.trans (PM.of_below il);obtain⟨v11,lX⟩:∃vv,vv=L:=⟨_,rfl⟩
  have nK:=jc;rw[<- lX]at G rY nK;try rw[<- Dl]
  clear lX uK kK Dl;refine(kg E hE v11 _ G nK.out [41]).mono ?_;rintro e nA ⟨rfl,V,lC,h12,iL⟩;have nT:=kH lC;have jb:=iL.blk G jh;have nH:=rY.trans iL;replace BX:=BX.pm iL G
  clear lC iL;obtain⟨⟨qaX10,qbX10,qcX10,qdX10,qeX10⟩,qgX10,qhX10,qiX10,qjX10,qkX10⟩:=BX.1.five;have qlX10:=BX.1.lt;obtain⟨⟨P,R,S,T,U⟩,g0,g1,g2,g3,g4⟩:=jb.five;go_wp2_with fail
  have M:=kH (bJ (v:=v) h12 nH nT.out jb J BX.2);refine bodyPost_ret (v:=.agg #[.int .i64 u,.string j,.int .i64 BV,.int .i64 Bd,.slice lJ m Y]) (by simp[results,Tryz.results185,go_sem,P,R,S,T,U]) rfl ?_;rw[N.out];exact M.out
 have N:Hid ((t,q)=(aI E.l (iI E.l v.st 5 []) v.st.k 1 [] [],iI E.l v.st 5 [])):=kH (by
  have:=F.out;rw[gG.out,if_neg (by simp)]at this;simp at this
  rw[<- this.1,<- this.2])
 clear F;refine(qV E hE v8 _ h8 gQ.out [40] gG.out).mono ?_;rintro e w9 ⟨rfl,v9,gX,h9,fZ⟩;have kE:=kH gX;have eU:=fZ.blk h8 b;have P9:=P8.trans fZ;clear gX fZ;go_wp2_with fail
 refine(Oz E hE v9 _ h9 kE.out 5 []).mono ?_;rintro e d ⟨⟨u10,rfl⟩,L,gy,h10,eT⟩;have jc:=kH gy;have dN:=eT.blk h9 eU;have jV:=P9.trans eT;clear gy eT;go_wp2_with fail
 refine(iK E hE L _ h10 v.st.k 1 [] (w.heap.size+1)).mono ?_;rintro e jB ⟨rfl,il,oC⟩;have G:=h10.below il;have jh:=dN.below il dN.lt;obtain⟨⟨P,R,S,T,U⟩,g0,g1,g2,g3,g4⟩:=jh.five;go_wp2_with fail
 have M:=kH (bJ (v:=v) G (jV.trans (PM.of_below il)) rfl jh J oC);clear oC;refine bodyPost_ret (v:=.agg #[.int .i64 1,.string (bf []),.int .i64 (bP E.l L.st v.st.k []),.int .i64 (L.st.last:Int),.slice none 0 0]) (by simp[results,Tryz.results185,go_sem,P,R,S,T,U]) rfl ?_;exact Eq.mp (congrArg (fun r=>bD E w v r _ _) (show(aI E.l L.st v.st.k 1 [] [],L.st)=_ by rw[jc.out,N.out])) M.out
end Go.Proofs.YtoepemlnlpamlaaGreat
