/- The law NamesBack holds for every text and every number: it returns true, and its arguments read as before. No condition. Part 26: Nam7 Nam8 Nam9. -/
import Derived.Test.YtoepemlnlpamlaaGreatBakk02
import Derived.Test.YtoepemlnlpamlaaGreatBakk19
import Derived.Test.YtoepemlnlpamlaaGreatBakk23
import Derived.Test.YtoepemlnlpamlaaGreatBakk25
set_option maxRecDepth 100000
set_option maxHeartbeats 4000000
namespace Go.Proofs.YtoepemlnlpamlaaGreat
open Go.RowKit
theorem Nc(l:jr)(m:Nat)(x:ByteArray)(n:Nat)(w:World)(hm:aZ jg w m (jF l)):
 Calls Tryz.prog 144 #[.map (some m),.string x,.int .i64 (n:Int)] w fun e w'=>e= .returned (.tuple #[])/\aZ jg w' m (jF (jU l x n))/\az (fun g=>g=m) w w':=by
 have hlk:=pg w m l hm x
 cases hl:bJ l x with
 | some k=>
  have hf:jU l x n=l:=by unfold jU aN;rw[hl];rfl
  rw[hf];rw[hl]at hlk;simp only[Option.getD_some,Option.isSome_some]at hlk;have HM:=kH hm;clear hm hf hl;go_enter Tryz.func144,Tryz.ntmps144
  go_wp2_with fail
  go_end0
  exact⟨rfl,HM.out,az.refl _ _⟩
 | none=>
  have hf:jU l x n=cO l x (n:Int):=by unfold jU aN;rw[hl];rfl
  rw[hf];rw[hl]at hlk;simp only[Option.getD_none,Option.isSome_none]at hlk;have HM:=kH hm;clear hm hf hl;go_enter Tryz.func144,Tryz.ntmps144
  obtain⟨w1,hrun,hm1,hg1,hz1⟩:=fe (P:=Tryz.prog) (KK:=jg) (t:=70) (kt:=9) (et:=3) Tryz.underlying70 Tryz.underlying9 HM.out x (.int .i64 (n:Int));change (Instr.mapUpdate 70 (.map (some m)) (Value.string x) (.int .i64 (n:Int))).run Tryz.prog w=_ at hrun;have hs1:az (fun g=>g=m) w w1:=(az.refl (fun g=>g=m) w).grown hg1 (fun k hk=>by cases hk;exact .inl rfl);rw[xB]at hm1;have xq:=kH hm1;have nV:=kH hs1;clear hm1 hg1 hz1 hs1;go_wp2_with fail
  go_end0
  exact⟨rfl,xq.out,nV.out⟩
theorem D5:∀(a:List aa) (f:aa) (n:Nat) (l:jr),jW (a++[f]) n l=if f.kind=4 then jU (jW a n l) f.text ((n+ag a:Nat):Int) else jW a n l
 | [],f,n,l=>rfl
 | g::a,f,n,l=>by
  show jW (a++[f]) (n+ah g) _=_;rw[D5 a,ag];show(if _ then jU (jW a (n+ah g) _) _ _ else jW a (n+ah g) _)=_;rw[show n+ah g+ag a=n+(ah g+ag a) by omega];rfl
theorem DZ:∀(a:List aa) (k:aa) (n:Nat) (g:aW),lH (a++[k]) n g=⟨jU (lH a n g).globals k.text ((n+ag a:Nat):Int),jW k.kids (n+ag a+1) (lH a n g).fields,cO (lH a n g).kinds ((n+ag a:Nat):Int) k.kind⟩
 | [],k,n,g=>rfl
 | j::a,k,n,g=>by
  show lH (a++[k]) (n+ah j) _=_;rw[DZ a,ag];rw[show n+ah j+ag a=n+(ah j+ag a) by omega];rfl
theorem xZ{α:Type}{l:List α}{i:Nat}{x:α}(h:l[i]? =some x):l.take (i+1)=l.take i++[x]:=by
 rw[List.take_add_one,h];rfl
theorem OC(l:List (Int×Int))(x n:Int):o5 (uH l) x (.int .i64 n)=uH (cO l x n):=Hu (Value.int .i64) x n l
structure CG (g f k:Nat) (G:aW) (w:World):Prop where
 gl:aZ jg w g (jF G.globals)
 fl:aZ jg w f (jF G.fields)
 kn:aZ kF w k (uH G.kinds)
theorem CG.below{g f k:Nat}{G:aW}{w w':World}(h:CG g f k G w)(hb:Below w.heap.size w w'):CG g f k G w':=⟨h.gl.G6 hb,h.fl.G6 hb,h.kn.G6 hb⟩
theorem aD.since{w w':World}{B:Nat}{S:Nat->Prop}(hs:az S w w')(hB:B<=w.heap.size)(hS:∀g,S g->B<=g){ts:List aa}{A:Option Addr}{i:Nat}(h:aD w B A i ts):aD w' B A i ts:=
 aD.below (hs.toBelow hB hS) (aaD _) _ _ _ h
theorem RZ(rp g f kk B:Nat)(a3 a4 a5 a6 a7 a8:Value)(w:World)(hb:ai w rp 75 #[.map (some g),.map (some f),.map (some kk),a3,a4,a5,a6,a7,a8])(hG:CG g f kk ⟨[],[],[]⟩ w)(hne:g≠f/\g≠kk/\f≠kk)(hB:B<=g/\B<=f/\B<=kk/\B<=w.heap.size)
 (t:aa) (A:Option Addr) (c:Nat) (hm:ah t<=1000000000) (hk:aD w B A 0 t.kids):
 Calls Tryz.prog 78 #[.pointer (some ⟨rp,0,none⟩),aX t A c] w fun e w'=>e= .returned (.tuple #[])/\CG g f kk (eP t) w'/\az (fun x=>x=g\/x=f\/x=kk) w w':=by
 have hcm:eP t=lH t.kids 1 ⟨[],[],[]⟩:=rfl;have hce:=tN t;obtain⟨kids,oJ⟩:∃q,t.kids=q:=⟨_,rfl⟩
 obtain⟨k0,x0,a0,z0,n,-,-,-,-,hn,hv⟩:=gM t A c;rw[hv,hcm];rw[oJ]at hk hn hce⊢;have hcl:=kC kids;have hS:∀x,(x=g\/x=f\/x=kk)->B<=x:=by intro x hx;omega
 have D8:=kH hS;have NF:=kH hB;have HK:=kH hk;have HN:=kH hn;have HCE:=kH hce;have HM:Hid (1+ag kids<=1000000000):=kH (by omega);have HG:=kH hG;have HB:=kH hb;have jb:=kH hne;have hnb:n<=1000000000:=by omega
 have hgl:=hb.lt;clear hk hce hm oJ hn hcl hv hcm hS hB hG hb hne;go_enter Tryz.func78,Tryz.ntmps78
 go_wp2_with fail
 generalize hW1:w.alloc (.cells #[.int .i64 k0,.string x0,.int .i64 a0,.int .i64 z0,.slice A n c] 24)=W1
 have hb1:Below w.heap.size w W1:=by rw[<- hW1];exact af _ _
 have nV:Hid (az (fun x=>x=g\/x=f\/x=kk) w W1):=kH ((az.refl _ w).below hb1);have HG1:=kH (HG.out.below hb1);clear hW1 hb1;go_loopg [4,14] n (fun gk s4 s14 wr=> ∃i:Nat,i+gk=n/\s4= .int .i64 ((1+ag (kids.take i):Nat):Int)/\s14= .int .i64 (i:Int)/\Hid (CG g f kk (lH (kids.take i) 1 ⟨[],[],[]⟩) wr)/\Hid (az (fun x=>x=g\/x=f\/x=kk) w wr))
 case atStart=>exact⟨0,by omega,by simp[ag],rfl,HG1,nV⟩
 case round=>
  obtain⟨i,hi,rfl,rfl,HGr,Ty⟩:=hrel;have HI:=kH hi;have hin:i<=n:=by omega
  clear hi;by_cases hlt:i<n
  ·have hlt':(i:Int)<(n:Int):=by omega
   obtain⟨u,hu⟩:∃u,kids[i]? =some u:=⟨_,aaH (by rw[HN.out];exact hlt)⟩
   have hbW:Below B w wr:=Ty.out.toBelow NF.out.2.2.2 D8.out;obtain⟨vals,⟨b,off,hA,hbl,hcs⟩,hT⟩:=HK.out.get i u hu;obtain⟨A',c',nO,hK'⟩:=hT.five;subst hA;subst nO;have MX:=Ty.out.size;have hbw:=NF.out.2.2.2;have hbb:b<wr.heap.size:=by omega
   obtain⟨uk,DD⟩:∃q,u.kind=q:=⟨_,rfl⟩
   obtain⟨ux,yO⟩:∃q,u.text=q:=⟨_,rfl⟩
   obtain⟨ua,GQ⟩:∃q,u.at_=q:=⟨_,rfl⟩
   obtain⟨uz,GN⟩:∃q,u.end_=q:=⟨_,rfl⟩
   obtain⟨pR,L6⟩:∃q,u.kids=q:=⟨_,rfl⟩
   obtain⟨un,hun⟩:∃q,pR.length=q:=⟨_,rfl⟩
   have t0:wr.cell? ⟨b,off+i*5,none⟩=some (.int .i64 uk):=(hbW.cell (p:=⟨b,_,none⟩) hbl).trans (by rw[<- DD];simpa using hcs 0 _ rfl);have t1:wr.cell? ⟨b,off+i*5+1,none⟩=some (.string ux):=(hbW.cell (p:=⟨b,_,none⟩) hbl).trans (by rw[<- yO];simpa using hcs 1 _ rfl);have t2:wr.cell? ⟨b,off+i*5+2,none⟩=some (.int .i64 ua):=(hbW.cell (p:=⟨b,_,none⟩) hbl).trans (by rw[<- GQ];simpa using hcs 2 _ rfl);have t3:wr.cell? ⟨b,off+i*5+3,none⟩=some (.int .i64 uz):=(hbW.cell (p:=⟨b,_,none⟩) hbl).trans (by rw[<- GN];simpa using hcs 3 _ rfl);have t4:wr.cell? ⟨b,off+i*5+4,none⟩=some (.slice A' un c'):=(hbW.cell (p:=⟨b,_,none⟩) hbl).trans (by rw[<- hun,<- L6];simpa using hcs 4 _ rfl)
   have Lu:Hid (ai wr rp 75 #[.map (some g),.map (some f),.map (some kk),a3,a4,a5,a6,a7,a8]):=kH (HB.out.since Ty.out (fun e=>by
    have h1:w.heap[rp]? =some (Obj.cells _ _ (0,0)):=HB.out;rcases e with e|e|e
    ·obtain⟨es,ck,ho⟩:=HG.out.gl.isMap
     rw[<- e,h1]at ho;cases ho
    ·obtain⟨es,ck,ho⟩:=HG.out.fl.isMap
     rw[<- e,h1]at ho;cases ho
    ·obtain⟨es,ck,ho⟩:=HG.out.kn.isMap
     rw[<- e,h1]at ho;cases ho))
   rw[L6]at hK';have HK':=kH hK';have HU0:=kH hu
   have VA:∀Z,az (fun x=>x=g\/x=f\/x=kk) w Z->Calls Tryz.prog 77 #[aX u A' c'] Z fun e w'=>e= .returned (.int .i64 (ah u:Int))/\Below Z.heap.size Z w':=fun Z hZ=>
    Fp u A' c' Z (by have h1:=gU kids i u HU0.out;have h2:=jk kids (i+1);have h3:=HM.out;omega) (aD.mono (aaE hbw hZ.size) _ _ _ (aD.since hZ hbw D8.out (by rw[L6];exact HK'.out)))
   unfold aX at VA;rw[DD,yO,GQ,GN,L6,hun]at VA;have HCU:=kH VA;clear VA;have hgr:=Lu.out.lt;have d0:=Lu.out.cell 0;have d1:=Lu.out.cell 1;have d2:=Lu.out.cell 2;have HU:=kH hu;have HUN:=kH hun;clear hcs hT hK' hu hbW hun;go_wp2_with fail
   generalize hX:wr.alloc (.cells #[.int .i64 uk,.string ux,.int .i64 ua,.int .i64 uz,.slice A' un c'] 24)=X
   have hbX:Below wr.heap.size wr X:=by rw[<- hX];exact af _ _
   have DL:ai X wr.heap.size 24 #[.int .i64 uk,.string ux,.int .i64 ua,.int .i64 uz,.slice A' un c']:=by rw[<- hX];exact ai.new wr _ _
   have Ah:Hid (az (fun x=>x=g\/x=f\/x=kk) w X):=kH (Ty.out.below hbX);have Lm:=kH (HGr.out.below hbX);have hBX:=Lu.out.below hbX hgr;obtain⟨num,CV⟩:∃q,1+ag (kids.take i)=q:=⟨_,rfl⟩
   rw[CV]at⊢;have Mk:=kH CV;obtain⟨Gi,hGi⟩:∃q,lH (kids.take i) 1 ⟨[],[],[]⟩=q:=⟨_,rfl⟩
   rw[hGi]at Lm;have uF:=kH hGi
   have o7:Hid (∀{r:Nat}{t:TypeId}{cs:Array Value}{x:Nat}{w':World},ai w' r t cs->(∃es ck,w'.heap[x]? =some (.map es ck))->r≠x):=kH (fun hb ⟨es,ck,ho⟩ e=>by
    subst e;have h1:_=some (Obj.cells _ _ (0,0)):=hb
    rw[ho]at h1;cases h1)
   have Yk:=kH DL;have yD:=kH hBX
   have qK:∀W':World,az (fun x=>x=g) X W'->W'.cell? ⟨rp,0,none⟩=some (.map (some g))/\W'.cell? ⟨wr.heap.size,1,none⟩=some (.string ux):=fun W' hs=>by
    have h1:=yD.out.since hs (fun e=>o7.out yD.out Lm.out.gl.isMap e);have h2:=Yk.out.since hs (fun e=>o7.out Yk.out Lm.out.gl.isMap e);exact⟨h1.cell 0,h2.cell 1⟩
   have Yn:=kH qK;have hlX:=DL.lt;have hrX:=hBX.lt;have e0:=hBX.cell 0;have e1:=DL.cell 1;have hs0:az (fun x=>x=g) X X.drew:=(az.refl _ X).drew;clear hX hbX DL hBX CV hGi Lu d0 d1 d2 t0 t1 t2 t3 t4 qK Ty HGr;go_region_held3 (fun w'=>w'.cell? ⟨rp,0,none⟩=some (.map (some g))/\w'.cell? ⟨wr.heap.size,1,none⟩=some (.string ux)) (exact Yn.out _ (by assumption)) ((go_at_call 144;refine(Nc Gi.globals g ux num X.drew (aZ.drew Lm.out.gl)).mono ?_;rintro e w2 ⟨rfl,hm2,hs2⟩;have hs3:=hs0.trans hs2))
   have hG2:CG g f kk ⟨jU Gi.globals ux num,Gi.fields,Gi.kinds⟩ w2:=⟨hm2,Lm.out.fl.since hs3 (fun e=>jb.out.1 e.symm),Lm.out.kn.since hs3 (fun e=>jb.out.2.1 e.symm)⟩
   have hB2:=yD.out.since hs3 (fun e=>o7.out yD.out Lm.out.gl.isMap e);have gX:=Yk.out.since hs3 (fun e=>o7.out Yk.out Lm.out.gl.isMap e);have HS2:Hid (az (fun x=>x=g\/x=f\/x=kk) w w2):=kH (Ah.out.step hs3 (fun x e=>.inl (.inl e)));have HZ2:Hid (wr.heap.size<w2.heap.size/\w.heap.size<=wr.heap.size):=kH ⟨gX.lt,MX⟩;have HG2:=kH hG2;have HB2:=kH hB2;have HT2:=kH gX;have e2:=hB2.cell 2;have t0:=gX.cell 0;have hl2:=gX.lt;have hr2:=hB2.lt;clear hs3 hs2 hs0 hm2 hG2 hB2 gX Lm Ah Yk yD Yn hlX hrX e0 e1;go_wp2_with fail
   refine fT (fun w'=>w'.cell? ⟨rp,2,none⟩=some (.map (some kk))/\w'.cell? ⟨wr.heap.size,0,none⟩=some (.int .i64 uk)) [7] [true,true,true,true,true,true,true,false] (by kernel_rfl) (by kernel_rfl) rfl (by kernel_rfl) ?_;have hS0:w2.drew.cell? ⟨rp,2,none⟩=some (.map (some kk))/\w2.drew.cell? ⟨wr.heap.size,0,none⟩=some (.int .i64 uk):=⟨e2,t0⟩
   iterate 7(refine jI rfl hS0 (by intro w' hSw;obtain⟨hs1,hs2⟩:=hSw;go_simp;rfl) ?_;simp only[Act.put,sA,sZ,sC])
   obtain⟨w4,hrun,gW,hg4,Xn⟩:=fe (P:=Tryz.prog) (KK:=kF) (t:=71) (kt:=3) (et:=3) Tryz.underlying71 Tryz.underlying3 (aZ.drew HG2.out.kn) (num:Int) (.int .i64 uk);change (Instr.mapUpdate 71 (.map (some kk)) (Value.int .i64 (num:Int)) (.int .i64 uk)).run Tryz.prog w2.drew=_ at hrun;have hs4:az (fun g=>g=kk) w2 w4:=((az.refl (fun g=>g=kk) w2).drew).grown hg4 (fun k hk=>by cases hk;exact .inl rfl);rw[OC]at gW;have hG4:CG g f kk ⟨jU Gi.globals ux num,Gi.fields,cO Gi.kinds (num:Int) uk⟩ w4:=⟨HG2.out.gl.since hs4 (fun e=>jb.out.2.1 e),HG2.out.fl.since hs4 (fun e=>jb.out.2.2 e),gW⟩
   have hB4:=HB2.out.since hs4 (fun e=>o7.out HB2.out HG2.out.kn.isMap e);have jC:=HT2.out.since hs4 (fun e=>o7.out HT2.out HG2.out.kn.isMap e);have HS4:Hid (az (fun x=>x=g\/x=f\/x=kk) w w4):=kH (HS2.out.step hs4 (fun x e=>.inl (.inr (.inr e))));have HZ4:Hid (wr.heap.size<w4.heap.size/\w.heap.size<=wr.heap.size):=kH ⟨jC.lt,HZ2.out.2⟩;have NA:=kH hG4;have p9:=kH hB4;have D7:=kH jC;have f4:=jC.cell 4;have hl4:=jC.lt;refine kG (w':=w4) rfl (by simp[execOp,Act.eval,hrun,Result.andThen]) (by simp) ?_;refine ll ?_;simp only[Act.put];obtain⟨Tm,Zv⟩:∃q,Gi.fields=q:=⟨_,rfl⟩
   rw[Zv]at NA;have Lr:=kH Zv;have hnb2:(num:Int)<=1000000000:=by have:=jk kids i;have:=Mk.out;have:=HM.out;omega
   have hwn:IntKind.i64.wrap ((num:Int)+1)=(num:Int)+1:=IntWalk.i64_in _ (by omega)
   have HUC:Hid (1+ag pR=ah u/\num+ah u<=1000000000):=kH (by
    have h1:=tN u;have h2:=gU kids i u HU.out;have h3:=jk kids (i+1);have h4:=Mk.out;have h5:=HM.out;rw[L6]at h1
    exact⟨by omega,by omega⟩)
   have hub:un<=1000000000:=by have:=HUC.out;have:=kC pR;have:=HUN.out;omega
   clear hs4 hG4 hB4 jC gW hg4 Xn hrun HG2 HB2 HT2 HS2 HZ2 e2 t0 hl2 hr2 Zv;go_wp2_with fail
   obtain⟨wo,hwo⟩:∃wo:World,wo=wr:=⟨_,rfl⟩
   subst hwo;obtain⟨go,hgo⟩:∃go:Nat,go=gk:=⟨_,rfl⟩
   subst hgo;go_loopg [8,39] un (fun gk s8 s39 wr=> ∃j:Nat,j+gk=un/\s8= .int .i64 ((num+1+ag (pR.take j):Nat):Int)/\s39= .int .i64 (j:Int)/\Hid (CG g f kk ⟨jU Gi.globals ux num,jW (pR.take j) (num+1) Tm,cO Gi.kinds (num:Int) uk⟩ wr)/\Hid (az (fun x=>x=g\/x=f\/x=kk) w4 wr))
   case atStart=>exact⟨0,by omega,by simp[ag],rfl,NA,kH (az.refl _ _)⟩
   case round=>
    obtain⟨j,hj,rfl,rfl,HGj,Nt⟩:=hrel;have HJ:=kH hj;have hjn:j<=un:=by omega
    have Yl:Hid (az (fun x=>x=g\/x=f\/x=kk) w wr):=kH (HS4.out.trans Nt.out)
    have hTj:=D7.out.since Nt.out (fun e=>by
     rcases e with e|e|e
     ·exact o7.out D7.out NA.out.gl.isMap e
     ·exact o7.out D7.out NA.out.fl.isMap e
     ·exact o7.out D7.out NA.out.kn.isMap e)
    have hBj:=p9.out.since Nt.out (fun e=>by
     rcases e with e|e|e
     ·exact o7.out p9.out NA.out.gl.isMap e
     ·exact o7.out p9.out NA.out.fl.isMap e
     ·exact o7.out p9.out NA.out.kn.isMap e)
    clear hj;by_cases hjt:j<un
    ·have hjt':(j:Int)<(un:Int):=by omega
     obtain⟨v,hv⟩:∃v,pR[j]? =some v:=⟨_,aaH (by rw[HUN.out];exact hjt)⟩
     have hbW:Below B w wr:=Yl.out.toBelow NF.out.2.2.2 D8.out;obtain⟨vals,⟨bb,ob,hA2,Qi,hcs⟩,gX⟩:=HK'.out.get j v hv;obtain⟨A2,c2,nO,hK2⟩:=gX.five;subst hA2;subst nO;have hzj:=Yl.out.size;have hbw:=NF.out.2.2.2;have ZG:bb<wr.heap.size:=by omega
     have NW:∀Z,az (fun x=>x=g\/x=f\/x=kk) w Z->Calls Tryz.prog 77 #[aX v A2 c2] Z fun e w'=>e= .returned (.int .i64 (ah v:Int))/\Below Z.heap.size Z w':=fun Z hZ=>
      Fp v A2 c2 Z (by have h1:=gU pR j v hv;have h2:=jk pR (j+1);have h3:=HUC.out;omega) (aD.mono (aaE hbw hZ.size) _ _ _ (aD.since hZ hbw D8.out hK2))
     unfold aX at NW;obtain⟨vk,hvk⟩:∃q,v.kind=q:=⟨_,rfl⟩
     obtain⟨vx,GM⟩:∃q,v.text=q:=⟨_,rfl⟩
     obtain⟨va,hva⟩:∃q,v.at_=q:=⟨_,rfl⟩
     obtain⟨vz,hvz⟩:∃q,v.end_=q:=⟨_,rfl⟩
     obtain⟨vn,kP⟩:∃q,v.kids.length=q:=⟨_,rfl⟩
     obtain⟨cv,hcv⟩:∃q,ah v=q:=⟨_,rfl⟩
     rw[hvk,GM,hva,hvz,kP,hcv]at NW;have t0:wr.cell? ⟨bb,ob+j*5,none⟩=some (.int .i64 vk):=(hbW.cell (p:=⟨bb,_,none⟩) Qi).trans (by rw[<- hvk];simpa using hcs 0 _ rfl);have t1:wr.cell? ⟨bb,ob+j*5+1,none⟩=some (.string vx):=(hbW.cell (p:=⟨bb,_,none⟩) Qi).trans (by rw[<- GM];simpa using hcs 1 _ rfl);have t2:wr.cell? ⟨bb,ob+j*5+2,none⟩=some (.int .i64 va):=(hbW.cell (p:=⟨bb,_,none⟩) Qi).trans (by rw[<- hva];simpa using hcs 2 _ rfl);have t3:wr.cell? ⟨bb,ob+j*5+3,none⟩=some (.int .i64 vz):=(hbW.cell (p:=⟨bb,_,none⟩) Qi).trans (by rw[<- hvz];simpa using hcs 3 _ rfl);have t4:wr.cell? ⟨bb,ob+j*5+4,none⟩=some (.slice A2 vn c2):=(hbW.cell (p:=⟨bb,_,none⟩) Qi).trans (by rw[<- kP];simpa using hcs 4 _ rfl);obtain⟨at_,hat⟩:∃q,num+1+ag (pR.take j)=q:=⟨_,rfl⟩
     have hsum:at_+cv<=1000000000:=by have h1:=gU pR j v hv;have h2:=jk pR (j+1);have h3:=HUC.out;omega
     have hws:IntKind.i64.wrap ((at_:Int)+(cv:Int))=(at_:Int)+(cv:Int):=IntWalk.i64_in _ (by omega);have hwj:IntKind.i64.wrap ((j:Int)+1)=(j:Int)+1:=IntWalk.i64_in _ (by omega);have hnxt:((at_:Int)+(cv:Int))=((num+1+ag (pR.take (j+1)):Nat):Int):=by have h1:=gU pR j v hv;omega
     have hcF:jW (pR.take (j+1)) (num+1) Tm=if vk=4 then jU (jW (pR.take j) (num+1) Tm) vx (at_:Int) else jW (pR.take j) (num+1) Tm:=by
      rw[xZ hv,D5,hvk,GM,hat]
     rw[hat];have HCF:=kH hcF;have bD:=kH hnxt;have HCV:=kH NW;have hTj1:=hTj.lt;have hrj:=hBj.lt;have HTj:=kH hTj;have HBj:=kH hBj;clear hcs gX hK2 hv hbW hcF hnxt NW hvk GM hva hvz kP hcv hat hTj hBj;by_cases hv4:vk=4
     ·subst hv4
      rw[if_pos rfl]at HCF;go_wp2_with fail
      generalize hY:wr.alloc (.cells #[.int .i64 4,.string vx,.int .i64 va,.int .i64 vz,.slice A2 vn c2] 24)=Y
      have tC:Below wr.heap.size wr Y:=by rw[<- hY];exact af _ _
      have hTY:ai Y wr.heap.size 24 #[.int .i64 4,.string vx,.int .i64 va,.int .i64 vz,.slice A2 vn c2]:=by rw[<- hY];exact ai.new wr _ _
      have Tz:Hid (az (fun x=>x=g\/x=f\/x=kk) w4 Y):=kH (Nt.out.below tC);have Rk:=kH (HGj.out.below tC);have wO:=HBj.out.below tC hrj;have Yj:=kH hTY;have NG:=kH wO
      have qK:∀W':World,az (fun x=>x=f) Y W'->W'.cell? ⟨rp,1,none⟩=some (.map (some f))/\W'.cell? ⟨wr.heap.size,1,none⟩=some (.string vx):=fun W' hs=>by
       have h1:=NG.out.since hs (fun e=>o7.out NG.out Rk.out.fl.isMap e);have h2:=Yj.out.since hs (fun e=>o7.out Yj.out Rk.out.fl.isMap e);exact⟨h1.cell 1,h2.cell 1⟩
      have Yn:=kH qK;have hlY:=hTY.lt;have hrY:=wO.lt;have e0:=wO.cell 1;have e1:=hTY.cell 1;have hs0:az (fun x=>x=f) Y Y.drew:=(az.refl _ Y).drew;clear hY tC hTY wO qK t0 t1 t2 t3 t4;go_region_held3 (fun w'=>w'.cell? ⟨rp,1,none⟩=some (.map (some f))/\w'.cell? ⟨wr.heap.size,1,none⟩=some (.string vx)) (exact Yn.out _ (by assumption)) ((go_at_call 144;refine(Nc (jW (pR.take j) (num+1) Tm) f vx at_ Y.drew (aZ.drew Rk.out.fl)).mono ?_;rintro e w6 ⟨rfl,gu,hs6⟩;have hs7:=hs0.trans hs6))
      have hG6:CG g f kk ⟨jU Gi.globals ux num,jU (jW (pR.take j) (num+1) Tm) vx (at_:Int),cO Gi.kinds (num:Int) uk⟩ w6:=⟨Rk.out.gl.since hs7 (fun e=>jb.out.1 e),gu,Rk.out.kn.since hs7 (fun e=>jb.out.2.2 e.symm)⟩
      have nQ:=Yj.out.since hs7 (fun e=>o7.out Yj.out Rk.out.fl.isMap e);have HSX6:Hid (az (fun x=>x=g\/x=f\/x=kk) w4 w6):=kH (Tz.out.step hs7 (fun x e=>.inl (.inr (.inl e))));have t0:=nQ.cell 0;have t1:=nQ.cell 1;have t2:=nQ.cell 2;have t3:=nQ.cell 3;have t4:=nQ.cell 4;have hl6:=nQ.lt;have HG6:=kH hG6;clear hs7 hs6 hs0 gu hG6 nQ Rk Tz Yj NG Yn hlY hrY e0 e1;go_wp2_with fail
      refine(HCV.out w6 (HS4.out.trans HSX6.out)).mono ?_;rintro e w7 ⟨rfl,dE⟩;have iG:=kH dE;clear dE t0 t1 t2 t3 t4;go_wp2_with fail
      go_roundg (gk - 1)
      case measure=>have:=HJ.out;omega
      case rel=>exact⟨j+1,by have:=HJ.out;omega,by rw[bD.out],by simp,kH (by rw[HCF.out];exact HG6.out.below iG.out),kH (HSX6.out.below iG.out)⟩
     ·rw[if_neg hv4]at HCF
      go_wp2_with fail
      refine(HCV.out _ (Yl.out.below (af _ _))).mono ?_;rintro e w7 ⟨rfl,dE⟩;have iG:Hid (Below wr.heap.size wr w7):=kH ((af _ _).trans (dE.mono (by simp)));clear dE t0 t1 t2 t3 t4;go_wp2_with fail
      go_roundg (gk - 1)
      case measure=>have:=HJ.out;omega
      case rel=>exact⟨j+1,by have:=HJ.out;omega,by rw[bD.out],by simp,kH (by rw[HCF.out];exact HGj.out.below iG.out),kH (Nt.out.below iG.out)⟩
    ·have hje:j=un:=by omega
     have t0:=hTj.cell 0;have t1:=hTj.cell 1;have t2:=hTj.cell 2;have t3:=hTj.cell 3;have t4:=hTj.cell 4;have SQ:=hTj.lt
     have HGE:Hid (CG g f kk (lH (kids.take (i+1)) 1 ⟨[],[],[]⟩) wr):=kH (by
      have h1:=HGj.out;rw[hje,<- HUN.out,List.take_length]at h1;rw[xZ HU.out,DZ,uF.out,Mk.out,yO,L6,DD,Lr.out]
      exact h1)
     have bD:Hid (((num:Int)+(ah u:Int))=((1+ag (kids.take (i+1)):Nat):Int)):=kH (by
      have h1:=gU kids i u HU.out;have h2:=Mk.out
      omega)
     have uB:=HCU.out wr Yl.out;obtain⟨cu,hcu2⟩:∃q,ah u=q:=⟨_,rfl⟩
     rw[hcu2]at uB bD;have hsum:num+cu<=1000000000:=by have:=HUC.out;omega
     have hws:IntKind.i64.wrap ((num:Int)+(cu:Int))=(num:Int)+(cu:Int):=IntWalk.i64_in _ (by omega);have hwi:IntKind.i64.wrap ((i:Int)+1)=(i:Int)+1:=IntWalk.i64_in _ (by omega);have HC:=kH uB;clear hTj hBj uB hcu2 hje;go_wp2_with fail
     refine HC.out.mono ?_;rintro e w7 ⟨rfl,dE⟩;have iG:=kH dE;clear dE t0 t1 t2 t3 t4;go_wp2_with fail
     go_roundg (go - 1)
     case measure=>have:=HI.out;omega
     case rel=>exact⟨i+1,by have:=HI.out;omega,by rw[bD.out],by simp,kH (HGE.out.below iG.out),kH (Yl.out.below iG.out)⟩
  ·have hie:i=n:=by omega
   have HGE:Hid (CG g f kk (lH kids 1 ⟨[],[],[]⟩) wr):=kH (by
    have h1:=HGr.out;rw[hie,<- HN.out,List.take_length]at h1
    exact h1)
   clear hie;go_wp2_with fail
   go_end0
   exact⟨rfl,HGE.out,Ty.out⟩
def fI(E:RC)(G:aW)(B:Nat)(t:aa):Prop:=
 ∀(i:Bool) (s:aK) (p:Option Addr) (ms:List Nat) (r:RS) (V:RV) (w:World) (A:Option Addr) (c:Nat),
  aS E G r V w->bK w E.base p s ms->Cn E ms->aD w B A 0 t.kids->t.kids.length<=c->E.base<=w.heap.size->pY s.isEmpty t=true->RB r s (ah t) ->
  Calls Tryz.prog 79 #[.pointer (some ⟨E.rp,0,none⟩),aX t A c,.pointer p,.bool i] w fun e w'=>e= .returned (.tuple #[])/\∃V',aS E G (aF G i t s r).1 V' w'/\bK w' E.base p (aF G i t s r).2 ms/\KX E (fun g=>g=E.vi\/ms.head? =some g) w w'
theorem Br{α:Type}{a b:List α}(h:a.length=b.length):a.isEmpty=b.isEmpty:=by
 cases a<;>cases b<;>first|rfl|cases h
theorem NM{P:Program}(w:World)(t e:TypeId)(i:TypeInfo)(ht:P.underlying t=some (.slice e))(hi:P.info? e=some i)(a:Option Addr)(len cap lo hi_:Nat)(h1:lo<=hi_)(h2:hi_<=cap):
 (Instr.slice t (.slice a len cap) (some (.int .i64 (lo:Int))) (some (.int .i64 (hi_:Int))) none).run P w= .ok (.slice (if cap=lo then a else a.map (·.add (lo*i.size))) (hi_ - lo) (cap - lo)) w:=by
 simp[Instr.slice,run_underlying ht,Instr.sliceBounds,Instr.sliceBound,asIntOf,sizeOf,typeInfo,hi];rw[if_pos h2,if_pos h1]
theorem aS.WV{E:RC}{G:aW}{r:RS}{V:RV}{w:World}(h:aS E G r V w){g:Nat}{cs:Array Value}(hb:ai w g 68 cs):E.uA.map (·.block)≠some g:=by
 intro hg
 have hv:(Value.slice E.uA r.uses.length E.uc).ownBlock=some g:=by
  cases hA:E.uA with
  | none=>rw[hA]at hg;cases hg
  | some p=>rw[hA]at hg;simpa [Value.ownBlock] using hg
 exact h.us.eu hb (by decide) hv
theorem Pq(E:RC)(G:aW)(B:Nat)(hB:B<=E.base)(kids:List aa)(hih:∀k∈kids,fI E G B k)(i:Bool)(s:aK)(p:Option Addr)(ms:List Nat)(r:RS)(V:RV)(w:World)
 (k0:Int) (x0:ByteArray) (a0 z0:Int) (A:Option Addr) (nk c f n Mv bn br:Nat) (hnk:kids.length=nk) (hto:Mv=f+n) (h:aS E G r V w) (hs:bK w E.base p s ms) (hsep:Cn E ms) (hk:aD w B A 0 kids) (hcap:nk<=c) (hfn:f+n<=nk) (hbase:E.base<=w.heap.size)
 (hbn:ai w bn 24 #[.int .i64 k0,.string x0,.int .i64 a0,.int .i64 z0,.slice A nk c]) (hbr:ai w br 68 #[.pointer (some ⟨E.rp,0,none⟩)]) (hv:lT s.isEmpty kids=true) (hrb:RB r s (ag ((kids.drop f).take n))):
 Calls Tryz.prog 146 #[.int .i64 (f:Int),.int .i64 (Mv:Int),.pointer p,.bool i,.pointer (some ⟨bn,0,none⟩),.pointer (some ⟨br,0,none⟩)] w fun e w'=>e= .returned (.tuple #[])/\∃V',aS E G (ae G i kids f n s r).1 V' w'/\bK w' E.base p (ae G i kids f n s r).2 ms/\KX E (fun g=>g=E.vi\/ms.head? =some g) w w':=by
 obtain⟨i0,hi0,hz0,hz1,hz2⟩:=info_parts qp;have hsl:=NM (P:=Tryz.prog) w 22 24 i0 Tryz.underlying22 hi0 A nk c f Mv (by omega) (by omega);rw[hz1,show Mv - f=n by omega]at hsl;obtain⟨A1,hA1⟩:∃A1,(if c=f then A else A.map (·.add (f*5)))=A1:=⟨_,rfl⟩
 rw[hA1]at hsl;obtain⟨c1,hc1⟩:∃q,c - f=q:=⟨_,rfl⟩
 rw[hc1]at hsl
 have hnm:n<=1000000:=by
  have h1:=hrb.room;have h2:=hrb.most;have h3:=kC ((kids.drop f).take n);simp at h3;omega
 have b4:=hbn.cell 4;have lb:=hbn.lt;have HA1:=kH hA1;have eH:=kH hih;have H:=kH h;have HS:=kH hs;have HK:=kH hk;have Be:=kH hbn;have nL:=kH hbr;have HV:=kH hv;have dI:=kH hrb;have fQ:=kH hnk;have Hf:Hid (f+n<=nk/\nk<=c/\B<=E.base/\E.base<=w.heap.size):=kH ⟨hfn,hcap,hB,hbase⟩;clear hA1 hih h hs hk hbn hbr hv hrb hnk hto hcap hfn hB hbase hc1 hi0 hz0 hz1 hz2;go_enter Tryz.func146,Tryz.ntmps146
 go_wp2_with fail
 go_loopg [18] n (fun gk s18 wr=> ∃(j:Nat) (Vj:RV),j+gk=n/\s18= .int .i64 (j:Int)/\Hid (aS E G (ae G i kids f j s r).1 Vj wr)/\Hid (bK wr E.base p (ae G i kids f j s r).2 ms)/\Hid (KX E (fun g=>g=E.vi\/ms.head? =some g) w wr))
 case atStart=>exact⟨0,V,by omega,rfl,by rw[Gg];exact H,by rw[Gg];exact HS,kH (KX.refl _ _ _)⟩
 case round=>
  obtain⟨j,Vj,hj,rfl,Hj,Nt,Yx⟩:=hrel;have HJ:=kH hj;have hjn:j<=n:=by omega
  clear hj;by_cases hlt:j<n
  ·have hlt':(j:Int)<(n:Int):=by omega
   obtain⟨u,hu⟩:∃u,kids[f+j]? =some u:=⟨_,aaH (by rw[fQ.out];have:=Hf.out;omega)⟩
   have hbW:Below E.base w wr:=Yx.out.low Hf.out.2.2.2;have hkr:aD wr B A 0 kids:=aD.below (hbW.mono Hf.out.2.2.1) (aaD _) _ _ _ HK.out;obtain⟨vals,⟨b,off,hA,hbl,hcs⟩,hT⟩:=hkr.get (f+j) u hu;obtain⟨A',c',nO,hK'⟩:=hT.five;subst hA;subst nO;have uB:=hT.cap;have hsz:=Yx.out.size
   have hA1:A1=some ⟨b,off+f*5,none⟩:=by
    rw[<- HA1.out,if_neg (by have:=Hf.out;omega)];simp[Addr.add_lit]
   subst hA1;have hbb:b<wr.heap.size:=by have:=Hf.out;omega
   obtain⟨uk,DD⟩:∃q,u.kind=q:=⟨_,rfl⟩
   obtain⟨ux,yO⟩:∃q,u.text=q:=⟨_,rfl⟩
   obtain⟨ua,GQ⟩:∃q,u.at_=q:=⟨_,rfl⟩
   obtain⟨uz,GN⟩:∃q,u.end_=q:=⟨_,rfl⟩
   obtain⟨un,hun⟩:∃q,u.kids.length=q:=⟨_,rfl⟩
   have hcs':∀q v,[Value.int .i64 uk,.string ux,.int .i64 ua,.int .i64 uz,.slice A' un c'][q]? =some v->wr.cell? ⟨b,off+f*5+j*5+q,none⟩=some v:=fun q v hq=>by
    have:=hcs q v (by rw[DD,yO,GQ,GN,hun];exact hq);rw[show off+(0+(f+j))*5+q=off+f*5+j*5+q by omega]at this;exact this
   have t0:wr.cell? ⟨b,off+f*5+j*5,none⟩=some (.int .i64 uk):=by simpa using hcs' 0 _ rfl
   have t1:wr.cell? ⟨b,off+f*5+j*5+1,none⟩=some (.string ux):=by simpa using hcs' 1 _ rfl
   have t2:wr.cell? ⟨b,off+f*5+j*5+2,none⟩=some (.int .i64 ua):=by simpa using hcs' 2 _ rfl
   have t3:wr.cell? ⟨b,off+f*5+j*5+3,none⟩=some (.int .i64 uz):=by simpa using hcs' 3 _ rfl
   have t4:wr.cell? ⟨b,off+f*5+j*5+4,none⟩=some (.slice A' un c'):=by simpa using hcs' 4 _ rfl
   have hbR:=Yx.out.blk nL.out (by decide) (by decide) (by decide) (H.out.WV nL.out);have hmem:u∈kids:=aaP hu
   have hrbj:RB (ae G i kids f j s r).1 (ae G i kids f j s r).2 (ah u):=by
    refine dI.out.slow (xO G kids i f j s r) (iT G kids i f j s r) ?_;have h1:=o9 G kids i f j s r;have h2:((kids.drop f).take n)[j]? =some u:=by rw[List.getElem?_take_of_lt hlt,List.getElem?_drop];exact hu
    have h3:=gU _ j u h2;have h4:=jk ((kids.drop f).take n) (j+1);have e:((kids.drop f).take n).take j=(kids.drop f).take j:=by rw[List.take_take,Nat.min_eq_left hjn]
    rw[e]at h3;omega
   have hvj:pY (ae G i kids f j s r).2.isEmpty u=true:=by
    rw[Br (j5 G kids i f j s r)];exact aad HV.out u hmem
   obtain⟨X,hX⟩:∃X,wr.alloc (.cells #[.int .i64 uk,.string ux,.int .i64 ua,.int .i64 uz,.slice A' un c'] 24)=X:=⟨_,rfl⟩
   have hbX:Below wr.heap.size wr X:=by rw[<- hX];exact af _ _
   have hcall:=eH.out u hmem i (ae G i kids f j s r).2 p ms (ae G i kids f j s r).1 Vj X A' c' (Hj.out.below hbX) (Nt.out.below hbX) hsep (aD.below hbX (by have:=Hf.out;omega) _ _ _ hK') uB (by have:=Hf.out;have:=hbX.size;omega) hvj hrbj;unfold aX at hcall;rw[DD,yO,GQ,GN,hun,<- Bg G i kids f j s r u hu]at hcall;have HC:=kH hcall;have yD:=kH hbX;have DL:ai X wr.heap.size 24 #[.int .i64 uk,.string ux,.int .i64 ua,.int .i64 uz,.slice A' un c']:=by rw[<- hX];exact ai.new wr _ _
   have hRX:=hbR.below hbX hbR.lt;have r0:=hRX.cell 0;have lr:=hRX.lt;have y0:=DL.cell 0;have y1:=DL.cell 1;have y2:=DL.cell 2;have y3:=DL.cell 3;have y4:=DL.cell 4;have ly:=DL.lt;have hwj:IntKind.i64.wrap ((j:Int)+1)=(j:Int)+1:=IntWalk.i64_in _ (by omega);clear hcs hcs' hT hK' hkr hbW hu hcall hbX hrbj hvj hmem DD yO GQ GN hun uB hbR DL hRX;go_wp2_with (rw[hX])
   refine HC.out.mono ?_;rintro e w5 ⟨rfl,V5,h5,s5,k5⟩;have H5:=kH h5;have S5:=kH s5;have K5:Hid (KX E (fun g=>g=E.vi\/ms.head? =some g) w w5):=kH (Yx.out.trans ((KX.of_below (M:=fun g=>g=E.vi\/ms.head? =some g) yD.out).trans k5 (fun g hg=>.inl hg)) (fun g hg=>.inl hg));clear h5 s5 k5 t0 t1 t2 t3 t4 r0 y0 y1 y2 y3 y4 lr ly;go_wp2_with fail
   go_roundg (gk - 1)
   case measure=>have:=HJ.out;omega
   case rel=>exact⟨j+1,V5,by have:=HJ.out;omega,by simp,H5,S5,K5⟩
  ·have hje:j=n:=by omega
   subst hje;go_wp2_with fail
   go_end0
   exact⟨rfl,Vj,Hj.out,Nt.out,Yx.out⟩
theorem aS.Sl{E:RC}{G:aW}{r:RS}{V:RV}{w:World}(h:aS E G r V w)(n:Nat)(M:Nat->Prop):
 aS E G { r with next:=n } V (w.setCell ⟨E.rp,7,none⟩ (.int .i64 (n:Int)))/\KX E M w (w.setCell ⟨E.rp,7,none⟩ (.int .i64 (n:Int))):=by
 have hs:az (fun g=>g=E.rp) w (w.setCell ⟨E.rp,7,none⟩ (.int .i64 (n:Int))):=az.setCell (S:=fun g=>g=E.rp) (az.refl _ w) (p:=⟨E.rp,7,none⟩) (.inl rfl) _;have gQ:∀{K:Type} [DecidableEq K] {KK:om K}{q:Nat}{m:List (K×Value)},aZ KK w q m->aZ KK (w.setCell ⟨E.rp,7,none⟩ (.int .i64 (n:Int))) q m:=fun ha=>ha.since hs (fun h1=>ha.qP h.blk h1)
 have how:∀{e size v n' xs},aL w E.base e size v n' xs->e≠75->aL (w.setCell ⟨E.rp,7,none⟩ (.int .i64 (n:Int))) E.base e size v n' xs:=fun ha h1=>ha.since hs (fun g hg h3=>ha.eu h.blk h1 (by rw[hg,h3]))
 refine⟨⟨?_,gQ h.gl,gQ h.fl,gQ h.kn,gQ h.vi,?_,how h.ds (by decide),how h.us (by decide),how h.ps (by decide),h.low,h.apart⟩,?_⟩
 ·have:=h.blk.fU 7 (.int .i64 (n:Int))
  simpa using this
 ·refine eX.of_block h.bQ fun g cur hg _=>hs.block g (aaG.1 hg).1 fun h1=>?_
  subst h1;have hb:w.heap[E.rp]? =some (.cells _ 75 (0,0)):=h.blk;rw[hb]at hg;simp at hg
 ·refine az.mono hs fun g h1=>?_
  subst h1;exact⟨h.low.1,.inl ⟨_,_,_,h.blk,.inl rfl⟩⟩
theorem aS.OA{E:RC}{G:aW}{r:RS}{V:RV}{w:World}(h:aS E G r V w)(n:Int)(M:Nat->Prop):
 aS E G { r with owner:=n } V (w.setCell ⟨E.rp,8,none⟩ (.int .i64 n))/\KX E M w (w.setCell ⟨E.rp,8,none⟩ (.int .i64 n)):=by
 have hs:az (fun g=>g=E.rp) w (w.setCell ⟨E.rp,8,none⟩ (.int .i64 n)):=az.setCell (S:=fun g=>g=E.rp) (az.refl _ w) (p:=⟨E.rp,8,none⟩) (.inl rfl) _;have gQ:∀{K:Type} [DecidableEq K] {KK:om K}{q:Nat}{m:List (K×Value)},aZ KK w q m->aZ KK (w.setCell ⟨E.rp,8,none⟩ (.int .i64 n)) q m:=fun ha=>ha.since hs (fun h1=>ha.qP h.blk h1)
 have how:∀{e size v n' xs},aL w E.base e size v n' xs->e≠75->aL (w.setCell ⟨E.rp,8,none⟩ (.int .i64 n)) E.base e size v n' xs:=fun ha h1=>ha.since hs (fun g hg h3=>ha.eu h.blk h1 (by rw[hg,h3]))
 refine⟨⟨?_,gQ h.gl,gQ h.fl,gQ h.kn,gQ h.vi,?_,how h.ds (by decide),how h.us (by decide),how h.ps (by decide),h.low,h.apart⟩,?_⟩
 ·have:=h.blk.fU 8 (.int .i64 n)
  simpa using this
 ·refine eX.of_block h.bQ fun g cur hg _=>hs.block g (aaG.1 hg).1 fun h1=>?_
  subst h1;have hb:w.heap[E.rp]? =some (.cells _ 75 (0,0)):=h.blk;rw[hb]at hg;simp at hg
 ·refine az.mono hs fun g h1=>?_
  subst h1;exact⟨h.low.1,.inl ⟨_,_,_,h.blk,.inl rfl⟩⟩
theorem eX.snoc{w:World}{base:Nat}{ub:Option Nat}{k:Int}{l0:List Int}{v:Value}(ho:aL w base 3 1 v l0.length (iE l0))(hu:∀g,v.ownBlock=some g->ub≠some g):∀{l:List (Int×List Int)}{vals:List (Int×Value)},eX w base ub l vals->(∀g,v.ownBlock=some g->∀y∈vals,y.2.ownBlock≠some g)->eX w base ub (l++[(k,l0)]) (vals++[(k,v)])
 | [],vals,h,hn=>by
  have:vals=[]:=h;subst this;exact⟨v,[],rfl,ho,fun g hg=>⟨hu g hg,by simp⟩,rfl⟩
 | x::l,vals,h,hn=>by
  obtain⟨v1,vs,rfl,h2,h3,h4⟩:=h;refine⟨v1,vs++[(k,v)],rfl,h2,fun g hg=>⟨(h3 g hg).1,fun y hy=>?_⟩,eX.snoc ho hu h4 fun g hg y hy=>hn g hg y (by simp[hy])⟩;rcases List.mem_append.1 hy with hy|hy
  ·exact(h3 g hg).2 y hy
  ·rw[List.mem_singleton]at hy
   subst hy;exact fun e=>hn g e (x.1,v1) (by simp) hg
theorem eX.lt{w:World}{base:Nat}{ub:Option Nat}:∀{l:List (Int×List Int)}{vals:List (Int×Value)},eX w base ub l vals->∀y∈vals,∀g,y.2.ownBlock=some g->g<w.heap.size
 | [],vals,h,y,hy=>by
  have:vals=[]:=h;subst this
  cases hy
 | x::l,vals,h,y,hy=>by
  obtain⟨v1,vs,rfl,h2,h3,h4⟩:=h;rcases List.mem_cons.1 hy with rfl|hy
  ·exact fun g hg=>(h2.lt g hg).2
  ·exact eX.lt h4 y hy
theorem eX.keys{w:World}{base:Nat}{ub:Option Nat}:∀{l:List (Int×List Int)}{vals:List (Int×Value)},eX w base ub l vals->vals.map (·.1)=l.map (·.1)
 | [],vals,h=>by
  have:vals=[]:=h;subst this;rfl
 | x::l,vals,h=>by
  obtain⟨v1,vs,rfl,h2,h3,h4⟩:=h;simp[eX.keys h4]
theorem OB{K:Type}[DecidableEq K]:∀{m:List (K×Value)}{k:K}(v:Value),k ∉ m.map (·.1)->o5 m k v=m++[(k,v)]
 | [],_,_,_=>rfl
 | x::m,k,v,h=>by
  rw[List.map_cons,List.mem_cons]at h;have hk:k≠x.1:=fun e=>h (.inl e)
  rw[Es _ _ _ _ hk,OB v fun h1=>h (.inr h1)];rfl
theorem Et{K V:Type}[DecidableEq K]:∀{l:List (K×V)}{k:K}(v:V),k ∉ l.map (·.1)->cO l k v=l++[(k,v)]
 | [],_,_,_=>rfl
 | x::l,k,v,h=>by
  rw[List.map_cons,List.mem_cons]at h;have hk:k≠x.1:=fun e=>h (.inl e)
  rw[cO,if_neg hk,Et v fun h1=>h (.inr h1)];rfl
theorem aS.Sz{E:RC}{G:aW}{r:RS}{V:RV}{w w1 w':World}(h:aS E G r V w)(hbs:E.base<=w.heap.size)(hb:Below w.heap.size w w1)(n:Int)(l:List Int)(v:Value)(ho:aL w1 w.heap.size 3 1 v l.length (iE l))(hn:n ∉ r.bQ.map (·.1))(M:Nat->Prop)(hM:M E.vi)
 (hm:aZ kF w' E.vi (o5 V.vals n v)) (hs:az (fun g=>g=E.vi) w1 w'):
 aS E G { r with bQ:=cO r.bQ n l } { V with vals:=o5 V.vals n v } w'/\KX E M w w':=by
 have h1:=h.below hb;have hmap:=h1.vi.isMap
 have hnot:∀{g:Nat}{t:TypeId}{cs:Array Value},ai w1 g t cs->g≠E.vi:=fun hb e=>by
  obtain⟨es,ck,ho⟩:=hmap;subst e;have:w1.heap[_]? =some (Obj.cells _ _ (0,0)):=hb;rw[ho]at this;cases this
 have how:∀{e size v n xs base},aL w1 base e size v n xs->aL w' base e size v n xs:=fun ha=>ha.since hs (fun g hg e=>by
  subst e;obtain⟨cur,hc⟩:=ha.obj _ hg;obtain⟨es,ck,ho⟩:=hmap;rw[ho]at hc
  cases hc)
 have hkeys:n ∉ V.vals.map (·.1):=by rw[h.bQ.keys];exact hn
 refine⟨⟨h1.blk.since hs (hnot h1.blk),h1.gl.since hs (fun e=>h.apart.1 e.symm),h1.fl.since hs (fun e=>h.apart.2.1 e.symm),h1.kn.since hs (fun e=>h.apart.2.2 e.symm),hm,?_,how h1.ds,how h1.us,how h1.ps,h.low,h.apart⟩,?_⟩
 ·show eX w' E.base (Value.slice E.uA r.uses.length E.uc).ownBlock (cO r.bQ n l) (o5 V.vals n v)
  rw[Et l hn,OB v hkeys];refine eX.snoc (how (ho.mono hbs)) (fun g hg e=>?_) (eX.of_block h1.bQ fun g cur hg _=>hs.block g (aaG.1 hg).1 fun e=>?_) (fun g hg y hy e=>?_)
  ·have h3:=(ho.lt g hg).1
   have h4:=(h.us.lt g e).2;omega
  ·subst e
   obtain⟨es,ck,ho⟩:=hmap;rw[ho]at hg;cases hg
  ·have h3:=(ho.lt g hg).1
   have h4:=h.bQ.lt y hy g e;omega
 ·exact(KX.of_below (M:=M) hb).trans (KX.nY hs hM h.low.2 hmap) (fun g hg=>.inl hg)
theorem aS.xG{E:RC}{G:aW}{r:RS}{V:RV}{w w':World}{M:Nat->Prop}(h:aS E G r V w)(hk:KX E M w w'){g:Nat}{cs:Array Value}(hb:ai w g 24 cs):ai w' g 24 cs:=hk.blk hb (by decide) (by decide) (by decide) (h.SA hb)
theorem aS.Ey{E:RC}{G:aW}{r:RS}{V:RV}{w w':World}{M:Nat->Prop}(h:aS E G r V w)(hk:KX E M w w'){g:Nat}{cs:Array Value}(hb:ai w g 68 cs):ai w' g 68 cs:=hk.blk hb (by decide) (by decide) (by decide) (h.WV hb)
end Go.Proofs.YtoepemlnlpamlaaGreat
