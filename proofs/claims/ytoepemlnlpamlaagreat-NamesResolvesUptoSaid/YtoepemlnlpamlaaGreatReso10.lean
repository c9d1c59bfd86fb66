/- The law NamesResolves holds where what it reads is of bulk at most 1048576: it returns true, and its argument reads as before. Part 10: Step Expr Operand. -/
import Derived.Test.YtoepemlnlpamlaaGreatReso09
set_option maxRecDepth 100000
set_option maxHeartbeats 4000000
namespace Go.Proofs.YtoepemlnlpamlaaGreat
open Go.RowKit
def gX(w:World)(P:Nat->Prop)(g:Nat)(t:ae)(a b c d e:Value):Prop:=
 ai w g 24 #[a,b,c,d,e]/\aB w P t [a,b,c,d,e]
theorem gX.pm{w w':World}{P:Nat->Prop}{g:Nat}{t:ae}{a b c d e:Value}{E:PE}{v v':PV}(h:gX w P g t a b c d e)(hm:PM E w v w' v')(hw:PW w E v):gX w' P g t a b c d e:=
 ⟨hm.blk hw h.1,aB.keeps (hm.dR hw) _ _ h.2⟩
theorem gX.below{w w':World}{P:Nat->Prop}{g:Nat}{t:ae}{a b c d e:Value}(h:gX w P g t a b c d e)(hb:Below w.heap.size w w'):gX w' P g t a b c d e:=
 ⟨ai.below h.1 hb (ai.lt h.1),aB.keeps (bW.of_below hb) _ _ h.2⟩
theorem gX.weak{w:World}{P Q:Nat->Prop}{g:Nat}{t:ae}{a b c d e:Value}(h:gX w P g t a b c d e)(Ru:∀g,g<w.heap.size->P g->Q g):gX w Q g t a b c d e:=
 ⟨h.1,aB.weak Ru _ _ h.2⟩
section
variable (E:PE) (hE:E.Ok) (v:PV) (w:World) (hpw:PW w E v) {p:PS}(hst:v.st=p)
include hE hpw hst
theorem qE(x:aZ)(hb:bE E.bs E.l p x=false):Calls Tryz.prog 128 #[.pointer (some ⟨E.gp,0,none⟩),.string (aX x)] w fun e w'=>e= .returned (.bool false)/\zq E w v p w':=by
 subst hst;have:=fV E hE v x w hpw;rw[hb]at this;unfold bI at this;rw[hb]at this;exact this
theorem oU(x:aZ)(hb:bE E.bs E.l p x=true):Calls Tryz.prog 128 #[.pointer (some ⟨E.gp,0,none⟩),.string (aX x)] w fun e w'=>e= .returned (.bool true)/\zq E w v (ay E.l p) w':=by
 subst hst;have:=fV E hE v x w hpw;rw[hb]at this;unfold bI at this;rw[hb]at this;exact this
theorem jS(x:aZ):Calls Tryz.prog 126 #[.pointer (some ⟨E.gp,0,none⟩),.string (aX x)] w fun e w'=>e= .returned (.bool (bE E.bs E.l p x))/\zq E w v (aI E.bs E.l p x) w':=by
 subst hst;exact j6 E hE v x w hpw
theorem TL:Calls Tryz.prog 125 #[.pointer (some ⟨E.gp,0,none⟩)] w fun e w'=>e= .returned (.string (aX (cK E.bs E.l p)))/\zq E w v (dI E.l p) w':=by
 subst hst;exact tV E hE v w hpw
theorem BF(x:aZ){b:Bool}(hb:bE E.bs E.l p x=b):Calls Tryz.prog 66 #[.pointer (some ⟨E.gp,0,none⟩),.string (aX x)] w fun e w'=>e= .returned (.bool b)/\zq E w v p w':=by
 subst hst;refine(yI E hE v x w hpw).mono ?_;rintro e w' ⟨rfl,hb'⟩;exact⟨by rw[hb],v,rfl,hpw.below hb',PM.of_below hb'⟩
theorem vT{k:Nat}(hk:bM E.l p=k):Calls Tryz.prog 65 #[.pointer (some ⟨E.gp,0,none⟩)] w fun e w'=>e= .returned (.int .i64 (k:Int))/\zq E w v p w':=by
 subst hst;refine(pI E hE v w hpw).mono ?_;rintro e w' ⟨rfl,hb'⟩;exact⟨by rw[hk],v,rfl,hpw.below hb',PM.of_below hb'⟩
theorem Om{x:aZ}(hx:og E.bs E.l p=x):Calls Tryz.prog 137 #[.pointer (some ⟨E.gp,0,none⟩)] w fun e w'=>e= .returned (.string (aX x))/\zq E w v p w':=by
 subst hst;refine(WW E hE v w hpw).mono ?_;rintro e w' ⟨rfl,hb'⟩;exact⟨by rw[hx],v,rfl,hpw.below hb',PM.of_below hb'⟩
theorem VG{b:Bool}(hb:DJ E.bs E.l p=b):Calls Tryz.prog 136 #[.pointer (some ⟨E.gp,0,none⟩)] w fun e w'=>e= .returned (.bool b)/\zq E w v p w':=by
 subst hst;refine(SQ E hE v w hpw).mono ?_;rintro e w' ⟨rfl,hb'⟩;exact⟨by rw[hb],v,rfl,hpw.below hb',PM.of_below hb'⟩
theorem SV(lv:Nat)(hlv:lv<=7){b:Bool}(hb:yu E.bs E.l p lv=b):Calls Tryz.prog 186 #[.pointer (some ⟨E.gp,0,none⟩),.int .i64 (lv:Int)] w fun e w'=>e= .returned (.bool b)/\zq E w v p w':=by
 subst hst;refine(Qv E hE v lv w hpw hlv).mono ?_;rintro e w' ⟨rfl,hb'⟩;exact⟨by rw[hb],v,rfl,hpw.below hb',PM.of_below hb'⟩
theorem vR(h5:bM E.l p≠5):Calls Tryz.prog 70 #[.pointer (some ⟨E.gp,0,none⟩)] w fun e w'=>e= .returned (.string (aX (bK E.bs E.l p.k)))/\zq E w v (ay E.l p) w':=by
 subst hst;refine(qJ E hE v w hpw h5).mono ?_;rintro e w' ⟨rfl,h1,h2⟩;exact⟨rfl,_,rfl,h1,h2⟩
theorem Ny(c:Int)(x:aZ):Calls Tryz.prog 69 #[.pointer (some ⟨E.gp,0,none⟩),.int .i64 c,.string (aX x)] w fun e w'=>(∃u,e= .returned u)/\zq E w v (iE E.l p c x) w':=by
 subst hst;exact sF E hE v c x w hpw
end
theorem GZ{s:aZ}{l:List jY}{p:PS}{x:aZ}(h:bE s l p x=true):bM l p≠5:=by
 unfold bE at h;simp at h;exact h.1
theorem lit2P{w:World}{P:Nat->Prop}{t1 t2:ae}{a b c d e a' b' c' d' e':Value}(h:aB w P t1 [a,b,c,d,e])(h':aB w P t2 [a',b',c',d',e'])(hP:P w.heap.size)(k:Int)(x:ByteArray)(at_ end_:Int):
 aB (w.alloc (.cells #[a,b,c,d,e,a',b',c',d',e'] 24)) P (.node k x at_ end_ [t1,t2]) [.int .i64 k,.string x,.int .i64 at_,.int .i64 end_,.slice (some ⟨w.heap.size,0,none⟩) 2 2]:=by
 have hk:bW P w (w.alloc (.cells #[a,b,c,d,e,a',b',c',d',e'] 24)):=bW.of_below (ag _ _);refine⟨some ⟨w.heap.size,0,none⟩,2,[[a,b,c,d,e],[a',b',c',d',e']],rfl,?_,fun g hg=>?_,_,_,rfl,aB.keeps hk _ _ h,_,_,rfl,aB.keeps hk _ _ h',rfl⟩
 ·exact aL.block (base:=0) (e:=24) (size:=5) (n:=2) (Nat.zero_le _) (ai.new w 24 _) (by simp only[maxLen];omega) (by simp)
 ·have:g=w.heap.size:=by simpa [Value.ownBlock] using hg.symm
  rw[this];exact hP
theorem XZ{s:aZ}{l:List jY}{p:PS}{lv:Nat}(h:yu s l p lv=true):bM l p≠5:=by
 unfold yu at h;simp at h;exact h.1
theorem Y1(E:PE)(hE:E.Ok)(f:Nat)(IH:∀f',f'<=f->yl E f')(lv:Nat)(hl3:lv≠3)(TU:lv≠7)(hl1:1<=lv)(hlm:lv<=7)(v:PV)(w:World)(t:ae)(q:PS)(hpw:PW w E v)(hr:aN E.bs E.l (f+1) (.expr lv) v.st=some ([t],q)):Calls Tryz.prog 134 #[.pointer (some ⟨E.gp,0,none⟩),.int .i64 (lv:Int)] w (bB E w v (t,q)):=by
 rw[aN,if_neg hl3,if_neg TU]at hr;obtain⟨x0,q0,hx0,hxl⟩:=eT hr;have HX0:=kH hx0;have Us:=kH hxl;have fD:=kH IH;have HL:Hid (lv+1<=7/\1<=lv):=kH ⟨by omega,hl1⟩;have e3:((lv:Int)==3)=false:=by simp;omega
 have e7:((lv:Int)==7)=false:=by simp;omega
 have hwr:IntKind.i64.wrap ((lv:Int)+1)=((lv+1:Nat):Int):=by rw[IntWalk.i64_in _ (by omega)];omega
 obtain⟨b4,hb4⟩:∃b,decide (lv=4)=b:=⟨_,rfl⟩
 have e4:((lv:Int)==4)=b4:=by rw[<- hb4,Bool.eq_iff_iff];simp;omega
 have sV:=kH hb4;clear hr hx0 hxl IH hl3 TU hl1 hlm hb4;have hgl:=hpw.blk.lt;have hk2:w.cell? ⟨E.gp,2,none⟩=some (.int .i64 (v.st.k:Int)):=hpw.blk.cell 2;go_enter Tryz.func134,Tryz.ntmps134
 go_wp2_with fail
 generalize hW1:w.alloc (.cells #[.int .i64 0,.string ⟨#[]⟩,.int .i64 0,.int .i64 0,.slice none 0 0] 24)=W1
 have hb1:Below w.heap.size w W1:=by rw[<- hW1];exact ag _ _
 have gJ:ai W1 w.heap.size 24 #[.int .i64 0,.string ⟨#[]⟩,.int .i64 0,.int .i64 0,.slice none 0 0]:=by rw[<- hW1];exact ai.new w _ _
 have hs1:W1.heap.size=w.heap.size+1:=by rw[<- hW1];simp
 have hm1:=PM.of_below (E:=E) (v:=v) hb1;have h1:=hpw.below hb1;have P1:=hm1;have o5:=kH hs1;have jv:=kH hm1;clear hW1 hs1 hm1 hb1;clear hk2;have Sa:Hid (v.st=v.st):=kH rfl;have hcall:=(fD.out f (abE _)).expr (lv+1) v W1 x0 q0 h1 (by omega) HL.out.1 HX0.out;have HC:=kH hcall;clear hcall;go_wp2_with fail
 refine(HC.out).mono ?_;rintro e w2 ⟨k2,t2,a2,z2,A2,n2,c2,rfl,p9,v2,hv2,h2,hm2⟩;try dsimp only at hv2 p9
 have gF:=kH hv2;have hR2:=hm2.blk h1 gJ;have P2:=P1.trans hm2;replace p9:=aB.weak (Q:=fun g=>w.heap.size+1<=g) (fun g _ hg=>abF gJ.lt hg) _ _ p9
 clear hv2 hm2;go_wp2_with fail
 replace p9:=aB.weak (Q:=fun g=>w.heap.size+1<=g/\g≠w2.heap.size) (fun g hg hp=>⟨hp,by omega⟩) _ _ p9
 generalize hW3:w2.alloc (.cells #[.int .i64 k2,.string t2,.int .i64 a2,.int .i64 z2,.slice A2 n2 c2] 24)=w3
 have hb3:Below w2.heap.size w2 w3:=by rw[<- hW3];exact ag _ _
 have X2:gX w3 _ w2.heap.size _ (.int .i64 k2) (.string t2) (.int .i64 a2) (.int .i64 z2) (.slice A2 n2 c2):=⟨by rw[<- hW3];exact ai.new w2 _ _,aB.keeps (bW.of_below hb3) _ _ p9⟩
 have hs3:w3.heap.size=w2.heap.size+1:=by rw[<- hW3];simp
 have h3:=h2.below hb3;have bT:=hR2.below hb3 hR2.lt;have P3:=P2.trans (PM.of_below hb3);obtain⟨v3,hv3⟩:∃vv,vv=v2:=⟨_,rfl⟩
 have fI:=gF;rw[<- hv3]at h3 P3 fI;try rw[<- hs3]
 clear hv3 hW3 p9 hs3;have hrl:=hR2.lt;go_loopg [] f (fun gk wr=> ∃x7 k7 t7 a7 z7 A7 n7 c7 vx,gX wr (fun g=>w.heap.size+1<=g/\g≠w2.heap.size) w2.heap.size x7 (.int .i64 k7) (.string t7) (.int .i64 a7) (.int .i64 z7) (.slice A7 n7 c7)/\gk<=f/\aN E.bs E.l gk (.xu lv v.st.k x7) vx.st=some ([t],q)/\PW wr E vx/\PM E w v wr vx/\ai wr w.heap.size 24 #[.int .i64 0,.string ⟨#[]⟩,.int .i64 0,.int .i64 0,.slice none 0 0])
 case atStart=>exact⟨x0,k2,t2,a2,z2,A2,n2,c2,v3,X2,abE _,by rw[fI.out];exact Us.out,h3,P3,bT⟩
 case round=>
  obtain⟨x7,k7,t7,a7,z7,A7,n7,c7,v7,X7,hgf,hx7,h7,P7,eZ⟩:=hrel
  cases gk with
  | zero=>simp[aN]at hx7
  | succ gk=>
   rw[aN]at hx7;have rF:=kH hx7;obtain⟨b,hb⟩:∃x,yu E.bs E.l v7.st lv=x:=⟨_,rfl⟩
   have HB:=kH hb;have HGF:Hid (gk<=f):=kH (by omega);clear hx7 hb hgf;go_wp2_with fail
   have lh:Hid (v7.st=v7.st):=kH rfl;refine(SV E hE v7 _ h7 lh.out lv (by have:=HL.out.1;omega) HB.out).mono ?_;rintro e w8 ⟨rfl,v8,dV,h8,dS⟩;have gL:=kH dV;have eB:=dS.blk h7 eZ;have P8:=P7.trans dS;replace X7:=X7.pm dS h7
   clear dV dS;cases b
   ·have hq:x7=t/\v7.st=q:=by
     have:=rF.out;rw[HB.out,if_neg (by simp)]at this;simpa using this
    obtain⟨rfl,hq⟩:=hq;rw[hq]at gL;obtain⟨⟨VB,Vz,Vw,Vu,Vs⟩,Vq,Vo,Vm,Vk,Vf⟩:=X7.1.five;have Vd:=X7.1.lt;obtain⟨⟨r0,r1,r2,r3,r4⟩,g0,g1,g2,g3,g4⟩:=eB.five;clear hq;go_wp2_with fail
    have aO:=kH (bJ (v:=v) h8 P8 gL.out eB hgl (aB.weak (fun g _ hp=>hp.1) _ _ X7.2));refine bodyPost_ret (v:=.agg #[.int .i64 k7,.string t7,.int .i64 a7,.int .i64 z7,.slice A7 n7 c7]) (by simp[results,Tryz.results134,go_sem,r0,r1,r2,r3,r4]) rfl ?_;exact aO.out
   ·obtain⟨x9,q9,hx,hnx⟩:∃x9 q9,aN E.bs E.l gk (.expr (lv+1)) (ay E.l v7.st)=some ([x9],q9)/\(if lv=4 then t=aH E.l q9 v.st.k 29 (bK E.bs E.l v7.st.k) [x7,x9]/\q=q9 else aN E.bs E.l gk (.xu lv v.st.k (aH E.l q9 v.st.k 29 (bK E.bs E.l v7.st.k) [x7,x9])) q9=some ([t],q)):=by
     have:=rF.out;rw[HB.out,if_pos rfl]at this;obtain⟨x,p,h1,h2⟩:=eT this;refine⟨x,p,h1,?_⟩;by_cases h4:lv=4
     ·rw[if_pos h4]at h2⊢
      simp at h2;exact⟨h2.1.symm,h2.2.symm⟩
     ·rw[if_neg h4]at h2⊢
      exact h2
    have HX:=kH hx;have bF:=kH hnx;clear hx hnx;go_wp2_with fail
    refine(vR E hE v8 _ h8 gL.out (XZ HB.out)).mono ?_;rintro e w9 ⟨rfl,v9,gV,h9,fU⟩;have jZ:=kH gV;have eY:=fU.blk h8 eB;have P9:=P8.trans fU;replace X7:=X7.pm fU h8
    clear gV fU;have hcall:=(fD.out gk (by have:=HGF.out;omega)).expr (lv+1) v9 w9 x9 q9 h9 (by omega) HL.out.1 (by rw[jZ.out];exact HX.out);have HC9:=kH hcall;clear hcall;go_wp2_with fail
    have hg9:w2.heap.size<w9.heap.size:=X7.1.lt;refine(HC9.out).mono ?_;rintro e bA ⟨k10,t10,Bc,zV,oL,n10,c10,rfl,mq,v10,fZ,h10,eH⟩;try dsimp only at fZ mq
    have iX:=kH fZ;have dK:=eH.blk h9 eY;have jG:=P9.trans eH;replace mq:=aB.weak (Q:=fun g=>w.heap.size+1<=g/\g≠w2.heap.size) (fun g _ hg=>⟨abF eY.lt hg,by omega⟩) _ _ mq
    replace X7:=X7.pm eH h9
    clear fZ eH;have hsz:=jG.since.size;obtain⟨⟨VB,Vz,Vw,Vu,Vs⟩,Vq,Vo,Vm,Vk,Vf⟩:=X7.1.five;have Vd:=X7.1.lt;go_wp2_with fail
    clear VB Vz Vw Vu Vs Vq Vo Vm Vk Vf Vd;generalize ug:bA.alloc (.cells #[.int .i64 k10,.string t10,.int .i64 Bc,.int .i64 zV,.slice oL n10 c10] 24)=ji
    have ig:Below bA.heap.size bA ji:=by rw[<- ug];exact ag _ _
    have Bd:gX ji _ bA.heap.size _ (.int .i64 k10) (.string t10) (.int .i64 Bc) (.int .i64 zV) (.slice oL n10 c10):=⟨by rw[<- ug];exact ai.new bA _ _,aB.keeps (bW.of_below ig) _ _ mq⟩
    have Cq:ji.heap.size=bA.heap.size+1:=by rw[<- ug];simp
    have h11:=h10.below ig;have jc:=dK.below ig dK.lt;have rE:=jG.trans (PM.of_below ig);replace X7:=X7.below ig
    obtain⟨v11,lG⟩:∃vv,vv=v10:=⟨_,rfl⟩
    have mR:=iX;rw[<- lG]at h11 rE mR;try rw[<- Cq]
    clear lG ug mq Cq;have hlo11:w.heap.size+1<=ji.heap.size:=by have:=jc.lt;omega
    have hg11:w2.heap.size<ji.heap.size:=X7.1.lt;have oV:=kH (yH (aB.weak (fun g _ hp=>hp.1) _ _ X7.2) (aB.weak (fun g _ hp=>hp.1) _ _ Bd.2) hlo11);have aa0:=fun k x a e=>lit2P X7.2 Bd.2 (P:=fun g=>w.heap.size+1<=g/\g≠w2.heap.size) ⟨hlo11,by omega⟩ k x a e
    generalize ze:ji.alloc (.cells #[.int .i64 k7,.string t7,.int .i64 a7,.int .i64 z7,.slice A7 n7 c7,.int .i64 k10,.string t10,.int .i64 Bc,.int .i64 zV,.slice oL n10 c10] 24)=mJ at oV aa0⊢
    have sJ:Below ji.heap.size ji mJ:=by rw[<- ze];exact ag _ _
    have h12:=h11.below sJ;have iW:=jc.below sJ jc.lt;have mO:=rE.trans (PM.of_below sJ);have aaY:=X7.1.below sJ hg11;clear ze;refine(JE E hE v11 _ h12 v.st.k 29 (bK E.bs E.l v7.st.k) (w.heap.size+1) (some ⟨ji.heap.size,0,none⟩) 2 2 [x7,x9] oV.out).mono ?_;rintro e uL ⟨rfl,ic⟩;have pR:=h12.below ic;have lI:=iW.below ic iW.lt;have Gp:=mO.trans (PM.of_below ic);have aaX:=aaY.below ic aaY.lt;have hN13:=aB.keeps (bW.of_below ic) _ _ (aa0 29 (aX (bK E.bs E.l v7.st.k)) (bO E.l v11.st v.st.k [x7,x9]) (v11.st.last:Int));obtain⟨yR,R5,hB14,WB⟩:=vQ pR Gp aaX (by have:=X7.1.lt;omega) (.int .i64 29) (.string (aX (bK E.bs E.l v7.st.k))) (.int .i64 (bO E.l v11.st v.st.k [x7,x9])) (.int .i64 (v11.st.last:Int)) (.slice (some ⟨ji.heap.size,0,none⟩) 2 2);have vI:=lI.keep (WB w.heap.size _ (by omega) lI);have hN14:=aB.keeps (w':=ek uL w2.heap.size (.int .i64 29) (.string (aX (bK E.bs E.l v7.st.k))) (.int .i64 (bO E.l v11.st v.st.k [x7,x9])) (.int .i64 (v11.st.last:Int)) (.slice (some ⟨ji.heap.size,0,none⟩) 2 2)) (fun g cs hP hc=>WB g cs hP.2 hc) _ _ hN13;have H14:=kH yR;have PP14:=kH R5;have HB14:=kH hB14;have HR14:=kH vI;have HN14:=kH hN14;have HV11':=kH (mR.out.symm);obtain⟨⟨q0,q1,q2,q3,q4⟩,Ia,H7,Hz,Hy,Hw⟩:=aaX.five;obtain⟨⟨r0,r1,r2,r3,r4⟩,g0,g1,g2,g3,g4⟩:=lI.five;have hl13:=aaX.lt;have hlr13:=lI.lt;clear yR R5 hB14 WB hN14 hN13 aa0 aaY vI X7 Bd;cases b4
    ·have hr4:=bF.out
     rw[if_neg (of_decide_eq_false sV.out)]at hr4;have HR4:=kH hr4;clear hr4;go_wp2_with fail
     go_roundg gk
     case measure=>omega
     case rel=>exact⟨_,29,_,_,_,_,2,2,v11,⟨HB14.out,HN14.out⟩,HGF.out,by have:=HR4.out;rw[<- mR.out]at this;exact this,H14.out,PP14.out,HR14.out⟩
    ·have hr4:=bF.out
     rw[if_pos (of_decide_eq_true sV.out)]at hr4;have HR4:=kH hr4;clear hr4;go_wp2_with fail
     have aO:=kH (bJ (v:=v) H14.out PP14.out mR.out HR14.out hgl (aB.weak (fun g _ hp=>hp.1) _ _ HN14.out));refine bodyPost_ret (v:=.agg #[.int .i64 29,.string (aX (bK E.bs E.l v7.st.k)),.int .i64 (bO E.l v11.st v.st.k [x7,x9]),.int .i64 (v11.st.last:Int),.slice (some ⟨ji.heap.size,0,none⟩) 2 2]) (by simp[results,Tryz.results134,go_sem,r0,r1,r2,r3,r4]) rfl ?_;have e1:t=ae.node 29 (aX (bK E.bs E.l v7.st.k)) (bO E.l v11.st v.st.k [x7,x9]) (v11.st.last:Int) [x7,x9]:=by rw[HR4.out.1,<- mR.out];rfl
     rw[e1,HR4.out.2];exact aO.out
theorem SG(E:PE)(hE:E.Ok)(v:PV)(w:World)(hpw:PW w E v){p:PS}(hst:v.st=p):Calls Tryz.prog 187 #[.pointer (some ⟨E.gp,0,none⟩)] w (bB E w v (ny E.bs E.l p)):=by
 subst hst;exact Fb E hE v w hpw
theorem Gj{s:aZ}{l:List jY}(he:qH s l){p:PS}(h:og s l p=[40]):bM l (ay l p)≠5:=by
 intro h5;have:=he (p.k+1) h5;unfold og at h;split at h
 ·rw[this]at h
  cases h
 ·cases h
theorem bV.low{w:World}{lo lo':Nat}{v:Value}{n:Nat}{ts:List ae}(h:bV w lo v n ts)(hl:lo'<=lo):bV w lo' v n ts:=by
 obtain⟨vals,h1,h2,h3⟩:=h;exact⟨vals,h1.mono hl,bU.weak (fun g _ hp=>⟨abF hl hp.1,hp.2⟩) _ _ h2,h3⟩
theorem SX(E:PE)(hE:E.Ok)(f:Nat)(IH:∀f',f'<=f->yl E f')(v:PV)(w:World)(t:ae)(q:PS)(hpw:PW w E v)(hr:aN E.bs E.l (f+1) .operand v.st=some ([t],q)):Calls Tryz.prog 185 #[.pointer (some ⟨E.gp,0,none⟩)] w (bB E w v (t,q)):=by
 rw[aN]at hr;have HR:=kH hr;have fD:=kH IH;clear hr IH;obtain⟨i0,hi0,hz0,hz1,hz2⟩:=info_parts rP;have hgl:=hpw.blk.lt;have hk2:w.cell? ⟨E.gp,2,none⟩=some (.int .i64 (v.st.k:Int)):=hpw.blk.cell 2;obtain⟨k,hk⟩:∃x,bM E.l v.st=x:=⟨_,rfl⟩
 have HK:=kH hk;obtain⟨b1,hb1⟩:∃x,bE E.bs E.l v.st [116,114,117,101]=x:=⟨_,rfl⟩
 have HB1:=kH hb1;obtain⟨b2,hb2⟩:∃x,bE E.bs E.l v.st [102,97,108,115,101]=x:=⟨_,rfl⟩
 have HB2:=kH hb2;obtain⟨b3,hb3⟩:∃x,bE E.bs E.l v.st [91]=x:=⟨_,rfl⟩
 have HB3:=kH hb3;obtain⟨b4,hb4⟩:∃x,bE E.bs E.l v.st [108,101,110]=x:=⟨_,rfl⟩
 have sV:=kH hb4;obtain⟨b5,hb5⟩:∃x,bE E.bs E.l v.st [40]=x:=⟨_,rfl⟩
 have jb:=kH hb5;clear hk hb1 hb2 hb3 hb4 hb5;go_enter Tryz.func185,Tryz.ntmps185
 go_wp2_with fail
 generalize hW1:w.alloc (.cells #[.int .i64 0,.string ⟨#[]⟩,.int .i64 0,.int .i64 0,.slice none 0 0] 24)=W1
 have hb1:Below w.heap.size w W1:=by rw[<- hW1];exact ag _ _
 have gJ:ai W1 w.heap.size 24 #[.int .i64 0,.string ⟨#[]⟩,.int .i64 0,.int .i64 0,.slice none 0 0]:=by rw[<- hW1];exact ai.new w _ _
 have hs1:W1.heap.size=w.heap.size+1:=by rw[<- hW1];simp
 have hm1:=PM.of_below (E:=E) (v:=v) hb1;have h1:=hpw.below hb1;have P1:=hm1;have o5:=kH hs1;have jv:=kH hm1;clear hW1 hs1 hm1 hb1;clear hk2;have Sa:Hid (v.st=v.st):=kH rfl;refine(vT E hE v _ h1 Sa.out HK.out).mono ?_;rintro e w2 ⟨rfl,v2,hv2,h2,hm2⟩;have gF:=kH hv2;have hR2:=hm2.blk h1 gJ;have P2:=P1.trans hm2;clear hv2 hm2;by_cases hk2:k=2
 ·subst hk2
  go_wp2_with fail
  refine(vR E hE v2 _ h2 gF.out (by rw[HK.out];decide)).mono ?_;rintro e w3 ⟨rfl,v3,hv3,h3,eu⟩;have fI:=kH hv3;have bT:=eu.blk h2 hR2;have P3:=P2.trans eu;clear hv3 eu;go_wp2_with fail
  refine(L6 (aX (bK E.bs E.l v.st.k)) _ (Nh hE _)).mono ?_;rintro e w7 ⟨rfl,rfl⟩;have hdt:aX (gB (aX (bK E.bs E.l v.st.k)).data.toList)=aX (gB (bK E.bs E.l v.st.k)):=rfl;rw[hdt];clear hdt
  have aM:Hid ((t,q)=(aH E.l (ay E.l v.st) v.st.k 24 (gB (bK E.bs E.l v.st.k)) [],ay E.l v.st)):=kH (by
   have:=HR.out;rw[HK.out,if_pos rfl]at this;simp at this
   rw[<- this.1,<- this.2])
  go_wp2_with fail
  refine(iG E hE v3 _ h3 v.st.k 24 (gB (bK E.bs E.l v.st.k)) (w.heap.size+1)).mono ?_;rintro e w4 ⟨rfl,hb4,kE⟩;have h4:=h3.below hb4;have dX:=bT.below hb4 bT.lt;obtain⟨⟨r0,r1,r2,r3,r4⟩,g0,g1,g2,g3,g4⟩:=dX.five;go_wp2_with fail
  have aO:=kH (bJ (v:=v) h4 (P3.trans (PM.of_below hb4)) rfl dX hgl kE);clear kE;refine bodyPost_ret (v:=.agg #[.int .i64 24,.string (aX (gB (bK E.bs E.l v.st.k))),.int .i64 (bO E.l v3.st v.st.k []),.int .i64 (v3.st.last:Int),.slice none 0 0]) (by simp[results,Tryz.results185,go_sem,r0,r1,r2,r3,r4]) rfl ?_;exact Eq.mp (congrArg (fun r=>bB E w v r _ _) (show(aH E.l v3.st v.st.k 24 (gB (bK E.bs E.l v.st.k)) [],v3.st)=_ by rw[fI.out,aM.out])) aO.out
 have hki:((k:Int)==2)=false:=by simp;omega
 have hkn:(k==2)=false:=by simp[hk2]
 have hR2:=HR.out;rw[if_neg (by rw[HK.out];exact hk2)]at hR2;replace HR:=kH hR2
 clear hR2 hk2;go_wp2_with fail
 refine(BF E hE v2 _ h2 gF.out [116,114,117,101] HB1.out).mono ?_;rintro e w3 ⟨rfl,v3,hv3,h3,eu⟩;have fI:=kH hv3;have bT:=eu.blk h2 hR2;have P3:=P2.trans eu;clear hv3 eu;cases b1
 case true=>
  have aM:Hid ((t,q)=(aH E.l (ay E.l v.st) v.st.k 25 (bK E.bs E.l v.st.k) [],ay E.l v.st)):=kH (by
   have:=HR.out;rw[HB1.out,if_pos (by simp)]at this;simp at this
   rw[<- this.1,<- this.2])
  go_wp2_with fail
  refine(vR E hE v3 _ h3 fI.out (GZ HB1.out)).mono ?_;rintro e w4 ⟨rfl,v4,hv4,h4,iB⟩;have ja:=kH hv4;have dX:=iB.blk h3 bT;have P4:=P3.trans iB;clear hv4 iB;go_wp2_with fail
  refine(iG E hE v4 _ h4 v.st.k 25 (bK E.bs E.l v.st.k) (w.heap.size+1)).mono ?_;rintro e w5 ⟨rfl,hb5,jF⟩;have h5:=h4.below hb5;have fw:=dX.below hb5 dX.lt;obtain⟨⟨r0,r1,r2,r3,r4⟩,g0,g1,g2,g3,g4⟩:=fw.five;go_wp2_with fail
  have aO:=kH (bJ (v:=v) h5 (P4.trans (PM.of_below hb5)) rfl fw hgl jF);clear jF;refine bodyPost_ret (v:=.agg #[.int .i64 25,.string (aX (bK E.bs E.l v.st.k)),.int .i64 (bO E.l v4.st v.st.k []),.int .i64 (v4.st.last:Int),.slice none 0 0]) (by simp[results,Tryz.results185,go_sem,r0,r1,r2,r3,r4]) rfl ?_;exact Eq.mp (congrArg (fun r=>bB E w v r _ _) (show(aH E.l v4.st v.st.k 25 (bK E.bs E.l v.st.k) [],v4.st)=_ by rw[ja.out,aM.out])) aO.out
 go_wp2_with fail
 refine(BF E hE v3 _ h3 fI.out [102,97,108,115,101] HB2.out).mono ?_;rintro e w4 ⟨rfl,v4,hv4,h4,iB⟩;have ja:=kH hv4;have dX:=iB.blk h3 bT;have P4:=P3.trans iB;clear hv4 iB;cases b2
 case true=>
  have aM:Hid ((t,q)=(aH E.l (ay E.l v.st) v.st.k 25 (bK E.bs E.l v.st.k) [],ay E.l v.st)):=kH (by
   have:=HR.out;rw[HB1.out,HB2.out,if_pos (by simp)]at this;simp at this
   rw[<- this.1,<- this.2])
  go_wp2_with fail
  refine(vR E hE v4 _ h4 ja.out (GZ HB2.out)).mono ?_;rintro e w5 ⟨rfl,v5,hv5,h5,iA⟩;have HV5:=kH hv5;have fw:=iA.blk h4 dX;have P5:=P4.trans iA;clear hv5 iA;go_wp2_with fail
  refine(iG E hE v5 _ h5 v.st.k 25 (bK E.bs E.l v.st.k) (w.heap.size+1)).mono ?_;rintro e w6 ⟨rfl,hb6,qN⟩;have h6:=h5.below hb6;have gD:=fw.below hb6 fw.lt;obtain⟨⟨r0,r1,r2,r3,r4⟩,g0,g1,g2,g3,g4⟩:=gD.five;go_wp2_with fail
  have aO:=kH (bJ (v:=v) h6 (P5.trans (PM.of_below hb6)) rfl gD hgl qN);clear qN;refine bodyPost_ret (v:=.agg #[.int .i64 25,.string (aX (bK E.bs E.l v.st.k)),.int .i64 (bO E.l v5.st v.st.k []),.int .i64 (v5.st.last:Int),.slice none 0 0]) (by simp[results,Tryz.results185,go_sem,r0,r1,r2,r3,r4]) rfl ?_;exact Eq.mp (congrArg (fun r=>bB E w v r _ _) (show(aH E.l v5.st v.st.k 25 (bK E.bs E.l v.st.k) [],v5.st)=_ by rw[HV5.out,aM.out])) aO.out
 have hR2:=HR.out;rw[HB1.out,HB2.out,if_neg (by simp)]at hR2;replace HR:=kH hR2
 clear hR2;go_wp2_with fail
 refine(vT E hE v4 _ h4 ja.out HK.out).mono ?_;rintro e w5 ⟨rfl,v5,hv5,h5,iA⟩;have HV5:=kH hv5;have fw:=iA.blk h4 dX;have P5:=P4.trans iA;clear hv5 iA;by_cases hk0:k=0
 ·subst hk0
  obtain⟨x,hx⟩:∃x,og E.bs E.l v.st=x:=⟨_,rfl⟩
  have HX:=kH hx;clear hx;go_wp2_with fail
  refine(Om E hE v5 _ h5 HV5.out HX.out).mono ?_;rintro e w6 ⟨rfl,v6,hv6,h6,gQ⟩;have ll:=kH hv6;have gD:=gQ.blk h5 fw;have P6:=P5.trans gQ;clear hv6 gQ;by_cases za:x=[40]
  ·subst za
   obtain⟨kids,q1,hy,hrq⟩:∃kids q1,aN E.bs E.l f .args (ay E.l v.st)=some (kids,q1)/\(t,q)=(aH E.l q1 v.st.k 27 (bK E.bs E.l v.st.k) kids,q1):=by
    have:=HR.out;rw[if_pos (by rw[HK.out,HX.out];simp)]at this;obtain⟨ks,p,h1,h2⟩:=vS this;simp at h2;exact⟨ks,p,h1,by rw[<- h2.1,<- h2.2]⟩
   have HY:=kH hy;have aM:=kH hrq;have e40:aX [40]=⟨#[40]⟩:=rfl;rw[e40];clear hy hrq e40;go_wp2_with fail
   refine(vR E hE v6 _ h6 ll.out (by rw[HK.out];decide)).mono ?_;rintro e w7 ⟨rfl,v7,hv7,h7,iV⟩;have lh:=kH hv7;have eZ:=iV.blk h6 gD;have P7:=P6.trans iV;clear hv7 iV;have hcall:=(fD.out f (abE _)).args v7 w7 kids q1 h7 (by rw[lh.out];exact Gj hE.empty HX.out) (by rw[lh.out];exact HY.out);have HC:=kH hcall;clear hcall;go_wp2_with fail
   refine HC.out.mono ?_;rintro e w8 ⟨A8,n8,c8,rfl,hK8,v8,dV,h8,dS⟩;have gL:=kH dV;have eB:=dS.blk h7 eZ;have P8:=P7.trans dS;have ng:=kH (hK8.low (lo':=w.heap.size+1) eZ.lt);clear dV dS hK8;go_wp2_with fail
   refine(dP E hE v8 _ h8 v.st.k 27 (bK E.bs E.l v.st.k) (w.heap.size+1) A8 n8 c8 kids ng.out).mono ?_;rintro e w9 ⟨rfl,fA,nX⟩;have h9:=h8.below fA;have eY:=eB.below fA eB.lt;obtain⟨⟨r0,r1,r2,r3,r4⟩,g0,g1,g2,g3,g4⟩:=eY.five;go_wp2_with fail
   have aO:=kH (bJ (v:=v) h9 (P8.trans (PM.of_below fA)) rfl eY hgl nX);clear nX;refine bodyPost_ret (v:=.agg #[.int .i64 27,.string (aX (bK E.bs E.l v.st.k)),.int .i64 (bO E.l v8.st v.st.k kids),.int .i64 (v8.st.last:Int),.slice A8 n8 c8]) (by simp[results,Tryz.results185,go_sem,r0,r1,r2,r3,r4]) rfl ?_;exact Eq.mp (congrArg (fun r=>bB E w v r _ _) (show(aH E.l v8.st v.st.k 27 (bK E.bs E.l v.st.k) kids,v8.st)=_ by rw[aM.out,gL.out])) aO.out
  ·obtain⟨wd,hwd⟩:∃y,aX x=y:=⟨_,rfl⟩
   have hwf:(wd.data.toList==[40])=false:=by rw[<- hwd];simpa [aX] using za
   have hwf2:(wd.toList==[40])=false:=by rw[ByteArray.toList_eq];exact hwf
   rw[hwd];have hR2:=HR.out;rw[if_neg (by rw[HK.out,HX.out];simp[za]),if_pos HK.out]at hR2;replace HR:=kH hR2
   clear hR2 hwd za;go_wp2_with fail
   refine(vT E hE v6 _ h6 ll.out HK.out).mono ?_;rintro e w7 ⟨rfl,v7,hv7,h7,iV⟩;have lh:=kH hv7;have eZ:=iV.blk h6 gD;have P7:=P6.trans iV;clear hv7 iV;have hcall:=(fD.out f (abE _)).place v7 w7 t q h7 (by rw[lh.out];exact HR.out);have HC:=kH hcall;clear hcall;go_wp2_with fail
   refine(HC.out).mono ?_;rintro e w8 ⟨k8,t8,a8,z8,A8,n8,c8,rfl,rX,v8,dV,h8,dS⟩;try dsimp only at dV rX
   have gL:=kH dV;have eB:=dS.blk h7 eZ;have P8:=P7.trans dS;replace rX:=aB.weak (Q:=fun g=>w.heap.size+1<=g) (fun g _ hg=>abF eZ.lt hg) _ _ rX
   clear dV dS;have aM:=trivial;obtain⟨⟨r0,r1,r2,r3,r4⟩,g0,g1,g2,g3,g4⟩:=eB.five;go_wp2_with fail
   have aO:=kH (bJ (v:=v) h8 P8 rfl eB hgl rX);clear rX;rw[gL.out]at aO;refine bodyPost_ret (v:=.agg #[.int .i64 k8,.string t8,.int .i64 a8,.int .i64 z8,.slice A8 n8 c8]) (by simp[results,Tryz.results185,go_sem,r0,r1,r2,r3,r4]) rfl ?_;try rw[aM.out]
   exact aO.out
 have Wy:((k:Int)==0)=false:=by simp;omega
 have Wx:(k==0)=false:=by simp[hk0]
 have hR2:=HR.out;rw[if_neg (by rw[HK.out];simp[hk0]),if_neg (by rw[HK.out];exact hk0)]at hR2;replace HR:=kH hR2
 clear hR2 hk0;go_wp2_with fail
 refine(vT E hE v5 _ h5 HV5.out HK.out).mono ?_;rintro e w6 ⟨rfl,v6,hv6,h6,gQ⟩;have ll:=kH hv6;have gD:=gQ.blk h5 fw;have P6:=P5.trans gQ;clear hv6 gQ;go_wp2_with fail
 cases b3
 case true=>
  obtain⟨x8,q8,kids,q1,hx,hy,hrq⟩:∃x q8 kids q1,aN E.bs E.l f (.expr 1) (ay E.l v.st)=some ([x],q8)/\aN E.bs E.l f (.qC [x]) q8=some (kids,q1)/\(t,q)=(aH E.l (aI E.bs E.l q1 [93]) v.st.k 26 [] kids,aI E.bs E.l q1 [93]):=by
   have:=HR.out;rw[HB3.out,if_pos rfl]at this;obtain⟨x,p,h1,h2⟩:=eT this;obtain⟨ks,p2,h3,h4⟩:=vS h2;simp at h4;exact⟨x,p,ks,p2,h1,h3,by rw[<- h4.1,<- h4.2]⟩
  have HX:=kH hx;have HY:=kH hy;have aM:=kH hrq;clear hx hy hrq HR;refine(oU E hE v6 _ h6 ll.out [91] HB3.out).mono ?_;rintro e w7 ⟨rfl,v7,hv7,h7,iV⟩;have lh:=kH hv7;have eZ:=iV.blk h6 gD;have P7:=P6.trans iV;clear hv7 iV;have hcall:=(fD.out f (abE _)).expr 1 v7 w7 x8 q8 h7 (by omega) (by omega) (by rw[lh.out];exact HX.out);have HC:=kH hcall;clear hcall;go_wp2_with fail
  refine(HC.out).mono ?_;rintro e w8 ⟨k8,t8,a8,z8,A8,n8,c8,rfl,rX,v8,dV,h8,dS⟩;try dsimp only at dV rX
  have gL:=kH dV;have eB:=dS.blk h7 eZ;have P8:=P7.trans dS;replace rX:=aB.weak (Q:=fun g=>w.heap.size+1<=g) (fun g _ hg=>abF eZ.lt hg) _ _ rX
  clear dV dS;go_wp2_with fail
  have Gx:=kH (jP rX (by have:=eB.lt;omega));generalize qA:w8.alloc (.cells #[.int .i64 k8,.string t8,.int .i64 a8,.int .i64 z8,.slice A8 n8 c8] 24)=w9 at Gx⊢
  have fA:Below w8.heap.size w8 w9:=by rw[<- qA];exact ag _ _
  have h9:=h8.below fA;have eY:=eB.below fA eB.lt;have P9:=P8.trans (PM.of_below fA);clear qA;go_loopg [6] f (fun gk s6 wr=> ∃A n c vx ts,s6= .slice A n c/\bV wr (w.heap.size+1) (.slice A n c) n ts/\gk<=f/\aN E.bs E.l gk (.qC ts) vx.st=some (kids,q1)/\n<=vx.st.k+1/\PW wr E vx/\PM E w v wr vx/\ai wr w.heap.size 24 #[.int .i64 0,.string ⟨#[]⟩,.int .i64 0,.int .i64 0,.slice none 0 0])
  case atStart=>exact⟨_,1,_,v8,[x8],rfl,Gx.out,abE _,by rw[gL.out];exact HY.out,by omega,h9,P9,eY⟩
  case round=>
   obtain⟨SA,n17,c17,v17,ML,rfl,hK17,hgf,We,hn17,EL,Ml,F4⟩:=hrel
   cases gk with
   | zero=>simp[aN]at We
   | succ gk=>
    rw[aN]at We;have HX17:=kH We;have Nb:=kH hK17;have hat17:=EL.at_;have zJ:=hE.most;clear We hK17;obtain⟨b7,dB⟩:∃x,bE E.bs E.l v17.st [44]=x:=⟨_,rfl⟩
    have gN:=kH dB;clear dB;go_wp2_with fail
    refine(fV E hE v17 [44] _ EL).mono ?_;rintro e w18 ⟨rfl,v18,hv18,h18,hm18⟩;rw[gN.out];have HV18:=kH hv18;have F3:=hm18.blk EL F4;have P18:=Ml.trans hm18;have Sl:=kH (Nb.out.keeps (hm18.dR EL));clear hv18 hm18;cases b7
    ·have hst:v18.st=v17.st:=by
      rw[HV18.out];unfold bI;rw[gN.out,if_neg (by simp)]
     have hkk:ML=kids/\v17.st=q1:=by
      have:=HX17.out;rw[gN.out,if_neg (by simp)]at this;simpa using this
     obtain⟨rfl,yL⟩:=hkk;have Gt:=kH (hst.trans yL);clear hst yL;go_wp2_with fail
     refine(j6 E hE v18 [93] _ h18).mono ?_;rintro e mJ ⟨rfl,v12,kI,h12,iH⟩;have nA:=kH kI;rw[Gt.out]at nA;have iW:=iH.blk h18 F3;have mO:=P18.trans iH;have oV:=kH (Sl.out.keeps (iH.dR h18));clear kI iH;go_wp2_with fail
     refine(dP E hE v12 _ h12 v.st.k 26 [] (w.heap.size+1) SA n17 c17 ML oV.out).mono ?_;rintro e uL ⟨rfl,ic,ru⟩;have pR:=h12.below ic;have lI:=iW.below ic iW.lt;obtain⟨⟨r0,r1,r2,r3,r4⟩,g0,g1,g2,g3,g4⟩:=lI.five;go_wp2_with fail
     have aO:=kH (bJ (v:=v) pR (mO.trans (PM.of_below ic)) rfl lI hgl ru);clear ru;refine bodyPost_ret (v:=.agg #[.int .i64 26,.string (aX []),.int .i64 (bO E.l v12.st v.st.k ML),.int .i64 (v12.st.last:Int),.slice SA n17 c17]) (by simp[results,Tryz.results185,go_sem,r0,r1,r2,r3,r4]) rfl ?_;exact Eq.mp (congrArg (fun r=>bB E w v r _ _) (show(aH E.l v12.st v.st.k 26 [] ML,v12.st)=_ by rw[aM.out,nA.out])) aO.out
    ·have hst:v18.st=ay E.l v17.st:=by
      rw[HV18.out];unfold bI;rw[gN.out,if_pos rfl]
     obtain⟨x9,q9,FL,hnx⟩:∃x9 q9,aN E.bs E.l gk (.expr 1) v18.st=some ([x9],q9)/\aN E.bs E.l gk (.qC (ML++[x9])) q9=some (kids,q1):=by
      have:=HX17.out;rw[gN.out,if_pos rfl,<- hst]at this;exact eT this
     have AJ:v18.st.k=v17.st.k+1:=by rw[hst];rfl
     have hpr:=BB hE.ends hE.empty FL (by rw[hE.len];exact h18.at_) ⟨by omega,by omega⟩;have hlt:=hpr.1.1;have hcall:=(fD.out gk (by omega)).expr 1 v18 w18 x9 q9 h18 (by omega) (by omega) FL;have jo:=kH hcall;have bF:=kH hnx;have Kn:=kH AJ;have QX:n17<=5001:=by omega
     have HGF:Hid (gk<=f):=kH (by omega);clear hst hpr FL hcall hnx AJ;go_wp2_with fail
     refine jo.out.mono ?_;rintro e w19 ⟨k19,t19,a19,z19,A19,n19,c19,rfl,hT19,v19,hv19,h19,aaA⟩;have HV19:=kH hv19;have hR19:=aaA.blk h18 F3;have P19:=P18.trans aaA;clear hv19;obtain⟨vals20,aaZ,hTs20,hn20⟩:=Sl.out.keeps (aaA.dR h18);have hTn20:aB w19 (fun g=>w.heap.size+1<=g/\some g≠(Value.slice SA n17 c17).ownBlock) _ _:=aB.weak (fun g _ hg=>⟨abF F3.lt hg,fun e1=>by obtain⟨_,hO4,_,_⟩:=Sl.out;have:=(hO4.lt g e1.symm).2;omega⟩) _ _ hT19;have hro20:(Value.slice SA n17 c17).ownBlock≠some w.heap.size:=fun e1=>by have:=(aaZ.lt _ e1).1;omega
     have hrz20:=hR19.lt;have HO20:=kH aaZ;have HTs20:=kH hTs20;have HTn20:=kH hTn20;have Hn20:=kH hn20;have HRO20:=kH hro20;clear aaZ hTs20 hTn20 hn20 hro20 hT19;go_wp2_with (at_builtin;go_must (refine dm _ rfl (.tmp 67) (.tmp 70) _ rfl (w.heap.size+1) 24 i0 _ 5 64 Tryz.underlying22 hi0 hz0 hz1 hz2 rfl (.slice SA n17 c17) n17 (List.flatten vals20) rfl (HO20.out.alloc _) ⟨w19.heap.size,0,none⟩ 1 1 [.int .i64 k19,.string t19,.int .i64 a19,.int .i64 z19,.slice A19 n19 c19] rfl rfl (jd _ _ _ _ _ _ _ (by go_simp) (by go_simp) (by go_simp) (by go_simp) (by go_simp)) (by simp[Value.oneCell']) (by simp only[maxLen];omega) (by omega) (by simp;omega) ?_);intro vn w20 hown hgrow hat;obtain⟨A20,c20,nC,-,-⟩:=hown.shape;subst nC;have HOWN20:=kH hown;have UF:=kH hgrow;have HAT20:=kH hat;clear hown hgrow hat)
     have HK20:=kH (bV.pushed HTs20.out Hn20.out HTn20.out HOWN20.out UF.out HAT20.out);obtain⟨h20,P20,TV⟩:=kM h19 P19 HO20.out (Nat.le_succ _) UF.out;have hR20:=TV _ _ hR19 HRO20.out;clear TV;go_roundg gk
     case measure=>omega
     case rel=>
      refine⟨A20,n17+1,c20,v19,ML++[x9],rfl,HK20.out,HGF.out,by rw[HV19.out];exact bF.out,?_,h20,P20,hR20⟩;rw[HV19.out];have:=Kn.out;show n17+1<=q9.k+1;omega
 have hR2:=HR.out;rw[HB3.out,if_neg (by simp)]at hR2;replace HR:=kH hR2
 clear hR2;refine(qE E hE v6 _ h6 ll.out [91] HB3.out).mono ?_;rintro e w7 ⟨rfl,v7,hv7,h7,iV⟩;have lh:=kH hv7;have eZ:=iV.blk h6 gD;have P7:=P6.trans iV;clear hv7 iV;go_wp2_with fail
 cases b4
 case true=>
  have aM:Hid ((t,q)=(aH E.l (aI E.bs E.l (ny E.bs E.l (aI E.bs E.l (ay E.l v.st) [40])).2 [41]) v.st.k 23 [] [(ny E.bs E.l (aI E.bs E.l (ay E.l v.st) [40])).1],aI E.bs E.l (ny E.bs E.l (aI E.bs E.l (ay E.l v.st) [40])).2 [41])):=kH (by
   have:=HR.out;rw[sV.out,if_pos rfl]at this;simp at this
   rw[<- this.1,<- this.2])
  clear HR;refine(oU E hE v7 _ h7 lh.out [108,101,110] sV.out).mono ?_;rintro e w8 ⟨rfl,v8,dV,h8,dS⟩;have gL:=kH dV;have eB:=dS.blk h7 eZ;have P8:=P7.trans dS;clear dV dS;go_wp2_with fail
  refine(jS E hE v8 _ h8 gL.out [40]).mono ?_;rintro e w9 ⟨rfl,v9,gV,h9,fU⟩;have jZ:=kH gV;have eY:=fU.blk h8 eB;have P9:=P8.trans fU;clear gV fU;go_wp2_with fail
  refine(SG E hE v9 _ h9 jZ.out).mono ?_;rintro e bA ⟨k10,t10,Bc,zV,oL,n10,c10,rfl,mq,v10,fZ,h10,eH⟩;try dsimp only at fZ mq
  have iX:=kH fZ;have dK:=eH.blk h9 eY;have jG:=P9.trans eH;replace mq:=aB.weak (Q:=fun g=>w.heap.size+1<=g) (fun g _ hg=>abF eY.lt hg) _ _ mq
  clear fZ eH;go_wp2_with fail
  generalize ug:bA.alloc (.cells #[.int .i64 k10,.string t10,.int .i64 Bc,.int .i64 zV,.slice oL n10 c10] 24)=ji
  have ig:Below bA.heap.size bA ji:=by rw[<- ug];exact ag _ _
  have Bd:gX ji _ bA.heap.size _ (.int .i64 k10) (.string t10) (.int .i64 Bc) (.int .i64 zV) (.slice oL n10 c10):=⟨by rw[<- ug];exact ai.new bA _ _,aB.keeps (bW.of_below ig) _ _ mq⟩
  have Cq:ji.heap.size=bA.heap.size+1:=by rw[<- ug];simp
  have h11:=h10.below ig;have jc:=dK.below ig dK.lt;have rE:=jG.trans (PM.of_below ig);obtain⟨v11,lG⟩:∃vv,vv=v10:=⟨_,rfl⟩
  have mR:=iX;rw[<- lG]at h11 rE mR;try rw[<- Cq]
  clear lG ug mq Cq;refine(jS E hE v11 _ h11 mR.out [41]).mono ?_;rintro e mJ ⟨rfl,v12,kI,h12,iH⟩;have nA:=kH kI;have iW:=iH.blk h11 jc;have mO:=rE.trans iH;replace Bd:=Bd.pm iH h11
  clear kI iH;obtain⟨⟨qaX10,qbX10,qcX10,qdX10,qeX10⟩,qgX10,qhX10,qiX10,qjX10,qkX10⟩:=Bd.1.five;have qlX10:=Bd.1.lt;go_wp2_with fail
  clear qaX10 qbX10 qcX10 qdX10 qeX10 qgX10 qhX10 qiX10 qjX10 qkX10 qlX10;have Sm:=kH (jP Bd.2 (by have:=iW.lt;omega));generalize Rm:mJ.alloc (.cells #[.int .i64 k10,.string t10,.int .i64 Bc,.int .i64 zV,.slice oL n10 c10] 24)=uL at Sm⊢
  have ic:Below mJ.heap.size mJ uL:=by rw[<- Rm];exact ag _ _
  have pR:=h12.below ic;have lI:=iW.below ic iW.lt;have Gp:=mO.trans (PM.of_below ic);obtain⟨v13,y9⟩:∃vv,vv=v12:=⟨_,rfl⟩
  have Ew:=nA;rw[<- y9]at pR Gp Ew;clear y9 Rm;refine(dP E hE v13 _ pR v.st.k 23 [] (w.heap.size+1) (some ⟨mJ.heap.size,0,none⟩) 1 1 [(ny E.bs E.l (aI E.bs E.l (ay E.l v.st) [40])).1] Sm.out).mono ?_;rintro e xH ⟨rfl,dO,AR⟩;have yR:=pR.below dO;have vI:=lI.below dO lI.lt;obtain⟨⟨r0,r1,r2,r3,r4⟩,g0,g1,g2,g3,g4⟩:=vI.five;go_wp2_with fail
  have aO:=kH (bJ (v:=v) yR (Gp.trans (PM.of_below dO)) rfl vI hgl AR);clear AR;refine bodyPost_ret (v:=.agg #[.int .i64 23,.string (aX []),.int .i64 (bO E.l v13.st v.st.k [(ny E.bs E.l (aI E.bs E.l (ay E.l v.st) [40])).1]),.int .i64 (v13.st.last:Int),.slice (some ⟨mJ.heap.size,0,none⟩) 1 1]) (by simp[results,Tryz.results185,go_sem,r0,r1,r2,r3,r4]) rfl ?_;exact Eq.mp (congrArg (fun r=>bB E w v r _ _) (show(aH E.l v13.st v.st.k 23 [] [(ny E.bs E.l (aI E.bs E.l (ay E.l v.st) [40])).1],v13.st)=_ by rw[aM.out,Ew.out])) aO.out
 have hR2:=HR.out;rw[sV.out,if_neg (by simp)]at hR2;replace HR:=kH hR2
 clear hR2;refine(qE E hE v7 _ h7 lh.out [108,101,110] sV.out).mono ?_;rintro e w8 ⟨rfl,v8,dV,h8,dS⟩;have gL:=kH dV;have eB:=dS.blk h7 eZ;have P8:=P7.trans dS;clear dV dS;go_wp2_with fail
 cases b5
 case true=>
  obtain⟨x9,q9,hx,hrq⟩:∃x q1,aN E.bs E.l f (.expr 1) (ay E.l v.st)=some ([x],q1)/\(t,q)=(x,aI E.bs E.l q1 [41]):=by
   have:=HR.out;rw[jb.out,if_pos rfl]at this;obtain⟨x,p,h1,h2⟩:=eT this;simp at h2;exact⟨x,p,h1,by rw[<- h2.1,<- h2.2]⟩
  have HX:=kH hx;have aM:=kH hrq;clear hx hrq HR;refine(oU E hE v8 _ h8 gL.out [40] jb.out).mono ?_;rintro e w9 ⟨rfl,v9,gV,h9,fU⟩;have jZ:=kH gV;have eY:=fU.blk h8 eB;have P9:=P8.trans fU;clear gV fU;have hcall:=(fD.out f (abE _)).expr 1 v9 w9 x9 q9 h9 (by omega) (by omega) (by rw[jZ.out];exact HX.out);have HC:=kH hcall;clear hcall;go_wp2_with fail
  refine(HC.out).mono ?_;rintro e bA ⟨k10,t10,Bc,zV,oL,n10,c10,rfl,mq,v10,fZ,h10,eH⟩;try dsimp only at fZ mq
  have iX:=kH fZ;have dK:=eH.blk h9 eY;have jG:=P9.trans eH;replace mq:=aB.weak (Q:=fun g=>w.heap.size+1<=g) (fun g _ hg=>abF eY.lt hg) _ _ mq
  clear fZ eH;go_wp2_with fail
  generalize ug:bA.alloc (.cells #[.int .i64 k10,.string t10,.int .i64 Bc,.int .i64 zV,.slice oL n10 c10] 24)=ji
  have ig:Below bA.heap.size bA ji:=by rw[<- ug];exact ag _ _
  have Bd:gX ji _ bA.heap.size _ (.int .i64 k10) (.string t10) (.int .i64 Bc) (.int .i64 zV) (.slice oL n10 c10):=⟨by rw[<- ug];exact ai.new bA _ _,aB.keeps (bW.of_below ig) _ _ mq⟩
  have Cq:ji.heap.size=bA.heap.size+1:=by rw[<- ug];simp
  have h11:=h10.below ig;have jc:=dK.below ig dK.lt;have rE:=jG.trans (PM.of_below ig);obtain⟨v11,lG⟩:∃vv,vv=v10:=⟨_,rfl⟩
  have mR:=iX;rw[<- lG]at h11 rE mR;try rw[<- Cq]
  clear lG ug mq Cq;refine(jS E hE v11 _ h11 mR.out [41]).mono ?_;rintro e mJ ⟨rfl,v12,kI,h12,iH⟩;have nA:=kH kI;have iW:=iH.blk h11 jc;have mO:=rE.trans iH;replace Bd:=Bd.pm iH h11
  clear kI iH;obtain⟨⟨qaX10,qbX10,qcX10,qdX10,qeX10⟩,qgX10,qhX10,qiX10,qjX10,qkX10⟩:=Bd.1.five;have qlX10:=Bd.1.lt;obtain⟨⟨r0,r1,r2,r3,r4⟩,g0,g1,g2,g3,g4⟩:=iW.five;go_wp2_with fail
  have aO:=kH (bJ (v:=v) h12 mO nA.out iW hgl Bd.2);refine bodyPost_ret (v:=.agg #[.int .i64 k10,.string t10,.int .i64 Bc,.int .i64 zV,.slice oL n10 c10]) (by simp[results,Tryz.results185,go_sem,r0,r1,r2,r3,r4]) rfl ?_;rw[aM.out];exact aO.out
 have aM:Hid ((t,q)=(aH E.l (iE E.l v.st 5 []) v.st.k 1 [] [],iE E.l v.st 5 [])):=kH (by
  have:=HR.out;rw[jb.out,if_neg (by simp)]at this;simp at this
  rw[<- this.1,<- this.2])
 clear HR;refine(qE E hE v8 _ h8 gL.out [40] jb.out).mono ?_;rintro e w9 ⟨rfl,v9,gV,h9,fU⟩;have jZ:=kH gV;have eY:=fU.blk h8 eB;have P9:=P8.trans fU;clear gV fU;go_wp2_with fail
 refine(Ny E hE v9 _ h9 jZ.out 5 []).mono ?_;rintro e bA ⟨⟨u10,rfl⟩,v10,fZ,h10,eH⟩;have iX:=kH fZ;have dK:=eH.blk h9 eY;have jG:=P9.trans eH;clear fZ eH;go_wp2_with fail
 refine(iG E hE v10 _ h10 v.st.k 1 [] (w.heap.size+1)).mono ?_;rintro e ji ⟨rfl,ig,nR⟩;have h11:=h10.below ig;have jc:=dK.below ig dK.lt;obtain⟨⟨r0,r1,r2,r3,r4⟩,g0,g1,g2,g3,g4⟩:=jc.five;go_wp2_with fail
 have aO:=kH (bJ (v:=v) h11 (jG.trans (PM.of_below ig)) rfl jc hgl nR);clear nR;refine bodyPost_ret (v:=.agg #[.int .i64 1,.string (aX []),.int .i64 (bO E.l v10.st v.st.k []),.int .i64 (v10.st.last:Int),.slice none 0 0]) (by simp[results,Tryz.results185,go_sem,r0,r1,r2,r3,r4]) rfl ?_;exact Eq.mp (congrArg (fun r=>bB E w v r _ _) (show(aH E.l v10.st v.st.k 1 [] [],v10.st)=_ by rw[iX.out,aM.out])) aO.out
end Go.Proofs.YtoepemlnlpamlaaGreat
