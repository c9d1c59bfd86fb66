/- The law NamesStand holds: for every text and every number the law returns true, and its arguments read as before. No condition. Part 20: Nam7 Ord1 Ord2. -/
import Derived.Test.YtoepemlnlpamlaaGreatStand01
import Derived.Test.YtoepemlnlpamlaaGreatStand18
import Derived.Test.YtoepemlnlpamlaaGreatStand19
set_option maxRecDepth 100000
set_option maxHeartbeats 4000000
namespace Go.Proofs.YtoepemlnlpamlaaGreat
open Go.RowKit
theorem MQ(l:nA)(m:Nat)(x:ByteArray)(n:Nat)(w:World)(hm:aY jB w m (jV l)):
 Calls Tryz.prog 144 #[.map (some m),.string x,.int .i64 (n:Int)] w fun e w'=>e= .returned (.tuple #[])/\aY jB w' m (jV (oP l x n))/\aA (fun g=>g=m) w w':=by
 have hlk:=fq w m l hm x
 cases hl:bG l x with
 | some k=>
  have hf:oP l x n=l:=by unfold oP bY;rw[hl];rfl
  rw[hf];rw[hl]at hlk;simp only[Option.getD_some,Option.isSome_some]at hlk;have HM:=kH hm;clear hm hf hl;go_enter Tryz.func144,Tryz.ntmps144
  go_wp2_with fail
  go_end0
  exact⟨rfl,HM.out,aA.refl _ _⟩
 | none=>
  have hf:oP l x n=dK l x (n:Int):=by unfold oP bY;rw[hl];rfl
  rw[hf];rw[hl]at hlk;simp only[Option.getD_none,Option.isSome_none]at hlk;have HM:=kH hm;clear hm hf hl;go_enter Tryz.func144,Tryz.ntmps144
  obtain⟨w1,hrun,hm1,hg1,hz1⟩:=bU (P:=Tryz.prog) (KK:=jB) (t:=70) (kt:=9) (et:=3) Tryz.underlying70 Tryz.underlying9 HM.out x (.int .i64 (n:Int));change (Instr.mapUpdate 70 (.map (some m)) (Value.string x) (.int .i64 (n:Int))).run Tryz.prog w=_ at hrun;have hs1:aA (fun g=>g=m) w w1:=(aA.refl (fun g=>g=m) w).grown hg1 (fun k hk=>by cases hk;exact .inl rfl);rw[xE]at hm1;have xB:=kH hm1;have pJ:=kH hs1;clear hm1 hg1 hz1 hs1;go_wp2_with fail
  go_end0
  exact⟨rfl,xB.out,pJ.out⟩
theorem Ef:∀(a:List aa) (f:aa) (n:Nat) (l:nA),ib (a++[f]) n l=if f.kind=4 then oP (ib a n l) f.text ((n+ag a:Nat):Int) else ib a n l
 | [],f,n,l=>rfl
 | g::a,f,n,l=>by
  show ib (a++[f]) (n+ai g) _=_;rw[Ef a,ag];show(if _ then oP (ib a (n+ai g) _) _ _ else ib a (n+ai g) _)=_;rw[show n+ai g+ag a=n+(ai g+ag a) by omega];rfl
theorem Ee:∀(a:List aa) (k:aa) (n:Nat) (g:bD),iQ (a++[k]) n g=⟨oP (iQ a n g).globals k.text ((n+ag a:Nat):Int),ib k.kids (n+ag a+1) (iQ a n g).fields,dK (iQ a n g).kinds ((n+ag a:Nat):Int) k.kind⟩
 | [],k,n,g=>rfl
 | j::a,k,n,g=>by
  show iQ (a++[k]) (n+ai j) _=_;rw[Ee a,ag];rw[show n+ai j+ag a=n+(ai j+ag a) by omega];rfl
theorem yl{α:Type}{l:List α}{i:Nat}{x:α}(h:l[i]? =some x):l.take (i+1)=l.take i++[x]:=by
 rw[List.take_add_one,h];rfl
theorem Od(l:List (Int×Int))(x n:Int):qM (uN l) x (.int .i64 n)=uN (dK l x n):=H7 (Value.int .i64) x n l
structure CG (g f k:Nat) (G:bD) (w:World):Prop where
 gl:aY jB w g (jV G.globals)
 fl:aY jB w f (jV G.fields)
 kn:aY iN w k (uN G.kinds)
theorem CG.below{g f k:Nat}{G:bD}{w w':World}(h:CG g f k G w)(hb:Below w.heap.size w w'):CG g f k G w':=⟨h.gl.uH hb,h.fl.uH hb,h.kn.uH hb⟩
theorem aK.since{w w':World}{B:Nat}{S:Nat->Prop}(hs:aA S w w')(hB:B<=w.heap.size)(hS:∀g,S g->B<=g){ts:List aa}{A:Option Addr}{i:Nat}(h:aK w B A i ts):aK w' B A i ts:=
 aK.below (hs.toBelow hB hS) (aab _) _ _ _ h
theorem Ro(rp g f kk B:Nat)(a3 a4 a5 a6 a7 a8:Value)(w:World)(hb:ak w rp 75 #[.map (some g),.map (some f),.map (some kk),a3,a4,a5,a6,a7,a8])(hG:CG g f kk ⟨[],[],[]⟩ w)(hne:g≠f/\g≠kk/\f≠kk)(hB:B<=g/\B<=f/\B<=kk/\B<=w.heap.size)
 (t:aa) (A:Option Addr) (c:Nat) (hm:ai t<=1000000000) (hk:aK w B A 0 t.kids):
 Calls Tryz.prog 78 #[.pointer (some ⟨rp,0,none⟩),bB t A c] w fun e w'=>e= .returned (.tuple #[])/\CG g f kk (fG t) w'/\aA (fun x=>x=g\/x=f\/x=kk) w w':=by
 have hcm:fG t=iQ t.kids 1 ⟨[],[],[]⟩:=rfl;have hce:=jO t;obtain⟨kids,mh⟩:∃q,t.kids=q:=⟨_,rfl⟩
 obtain⟨k0,x0,a0,z0,n,-,-,-,-,hn,hv⟩:=gD t A c;rw[hv,hcm];rw[mh]at hk hn hce⊢;have hcl:=dU kids;have hS:∀x,(x=g\/x=f\/x=kk)->B<=x:=by intro x hx;omega
 have Ei:=kH hS;have CK:=kH hB;have HK:=kH hk;have HN:=kH hn;have HCE:=kH hce;have HM:Hid (1+ag kids<=1000000000):=kH (by omega);have HG:=kH hG;have HB:=kH hb;have jv:=kH hne;have hnb:n<=1000000000:=by omega
 have hgl:=hb.lt;clear hk hce hm mh hn hcl hv hcm hS hB hG hb hne;go_enter Tryz.func78,Tryz.ntmps78
 go_wp2_with fail
 generalize hW1:w.alloc (.cells #[.int .i64 k0,.string x0,.int .i64 a0,.int .i64 z0,.slice A n c] 24)=W1
 have hb1:Below w.heap.size w W1:=by rw[<- hW1];exact ae _ _
 have pJ:Hid (aA (fun x=>x=g\/x=f\/x=kk) w W1):=kH ((aA.refl _ w).below hb1);have HG1:=kH (HG.out.below hb1);clear hW1 hb1;go_loopg [4,14] n (fun gk s4 s14 wr=> ∃i:Nat,i+gk=n/\s4= .int .i64 ((1+ag (kids.take i):Nat):Int)/\s14= .int .i64 (i:Int)/\Hid (CG g f kk (iQ (kids.take i) 1 ⟨[],[],[]⟩) wr)/\Hid (aA (fun x=>x=g\/x=f\/x=kk) w wr))
 case atStart=>exact⟨0,by omega,by simp[ag],rfl,HG1,pJ⟩
 case round=>
  obtain⟨i,hi,rfl,rfl,HGr,Sw⟩:=hrel;have HI:=kH hi;have hin:i<=n:=by omega
  clear hi;by_cases hlt:i<n
  ·have hlt':(i:Int)<(n:Int):=by omega
   obtain⟨u,hu⟩:∃u,kids[i]? =some u:=⟨_,aaf (by rw[HN.out];exact hlt)⟩
   have hbW:Below B w wr:=Sw.out.toBelow CK.out.2.2.2 Ei.out;obtain⟨vals,⟨b,off,hA,hbl,hcs⟩,hT⟩:=HK.out.get i u hu;obtain⟨A',c',lh,hK'⟩:=hT.five;subst hA;subst lh;have Mt:=Sw.out.size;have hbw:=CK.out.2.2.2;have hbb:b<wr.heap.size:=by omega
   obtain⟨uk,DY⟩:∃q,u.kind=q:=⟨_,rfl⟩
   obtain⟨ux,DX⟩:∃q,u.text=q:=⟨_,rfl⟩
   obtain⟨ua,GR⟩:∃q,u.at_=q:=⟨_,rfl⟩
   obtain⟨uz,GQ⟩:∃q,u.end_=q:=⟨_,rfl⟩
   obtain⟨qo,Ls⟩:∃q,u.kids=q:=⟨_,rfl⟩
   obtain⟨un,hun⟩:∃q,qo.length=q:=⟨_,rfl⟩
   have t0:wr.cell? ⟨b,off+i*5,none⟩=some (.int .i64 uk):=(hbW.cell (p:=⟨b,_,none⟩) hbl).trans (by rw[<- DY];simpa using hcs 0 _ rfl);have t1:wr.cell? ⟨b,off+i*5+1,none⟩=some (.string ux):=(hbW.cell (p:=⟨b,_,none⟩) hbl).trans (by rw[<- DX];simpa using hcs 1 _ rfl);have t2:wr.cell? ⟨b,off+i*5+2,none⟩=some (.int .i64 ua):=(hbW.cell (p:=⟨b,_,none⟩) hbl).trans (by rw[<- GR];simpa using hcs 2 _ rfl);have t3:wr.cell? ⟨b,off+i*5+3,none⟩=some (.int .i64 uz):=(hbW.cell (p:=⟨b,_,none⟩) hbl).trans (by rw[<- GQ];simpa using hcs 3 _ rfl);have t4:wr.cell? ⟨b,off+i*5+4,none⟩=some (.slice A' un c'):=(hbW.cell (p:=⟨b,_,none⟩) hbl).trans (by rw[<- hun,<- Ls];simpa using hcs 4 _ rfl)
   have S9:Hid (ak wr rp 75 #[.map (some g),.map (some f),.map (some kk),a3,a4,a5,a6,a7,a8]):=kH (HB.out.since Sw.out (fun e=>by
    have h1:w.heap[rp]? =some (Obj.cells _ _ (0,0)):=HB.out;rcases e with e|e|e
    ·obtain⟨es,ck,ho⟩:=HG.out.gl.isMap
     rw[<- e,h1]at ho;cases ho
    ·obtain⟨es,ck,ho⟩:=HG.out.fl.isMap
     rw[<- e,h1]at ho;cases ho
    ·obtain⟨es,ck,ho⟩:=HG.out.kn.isMap
     rw[<- e,h1]at ho;cases ho))
   rw[Ls]at hK';have HK':=kH hK';have HU0:=kH hu
   have U2:∀Z,aA (fun x=>x=g\/x=f\/x=kk) w Z->Calls Tryz.prog 77 #[bB u A' c'] Z fun e w'=>e= .returned (.int .i64 (ai u:Int))/\Below Z.heap.size Z w':=fun Z hZ=>
    Fx u A' c' Z (by have h1:=gP kids i u HU0.out;have h2:=iZ kids (i+1);have h3:=HM.out;omega) (aK.mono (aac hbw hZ.size) _ _ _ (aK.since hZ hbw Ei.out (by rw[Ls];exact HK'.out)))
   unfold bB at U2;rw[DY,DX,GR,GQ,Ls,hun]at U2;have XL:=kH U2;clear U2;have hgr:=S9.out.lt;have d0:=S9.out.cell 0;have d1:=S9.out.cell 1;have d2:=S9.out.cell 2;have HU:=kH hu;have HUN:=kH hun;clear hcs hT hK' hu hbW hun;go_wp2_with fail
   generalize hX:wr.alloc (.cells #[.int .i64 uk,.string ux,.int .i64 ua,.int .i64 uz,.slice A' un c'] 24)=X
   have hbX:Below wr.heap.size wr X:=by rw[<- hX];exact ae _ _
   have D9:ak X wr.heap.size 24 #[.int .i64 uk,.string ux,.int .i64 ua,.int .i64 uz,.slice A' un c']:=by rw[<- hX];exact ak.new wr _ _
   have Bg:Hid (aA (fun x=>x=g\/x=f\/x=kk) w X):=kH (Sw.out.below hbX);have K4:=kH (HGr.out.below hbX);have hBX:=S9.out.below hbX hgr;obtain⟨num,uO⟩:∃q,1+ag (kids.take i)=q:=⟨_,rfl⟩
   rw[uO]at⊢;have FO:=kH uO;obtain⟨Gi,hGi⟩:∃q,iQ (kids.take i) 1 ⟨[],[],[]⟩=q:=⟨_,rfl⟩
   rw[hGi]at K4;have uL:=kH hGi
   have pX:Hid (∀{r:Nat}{t:TypeId}{cs:Array Value}{x:Nat}{w':World},ak w' r t cs->(∃es ck,w'.heap[x]? =some (.map es ck))->r≠x):=kH (fun hb ⟨es,ck,ho⟩ e=>by
    subst e;have h1:_=some (Obj.cells _ _ (0,0)):=hb
    rw[ho]at h1;cases h1)
   have Xx:=kH D9;have qy:=kH hBX
   have ma:∀W':World,aA (fun x=>x=g) X W'->W'.cell? ⟨rp,0,none⟩=some (.map (some g))/\W'.cell? ⟨wr.heap.size,1,none⟩=some (.string ux):=fun W' hs=>by
    have h1:=qy.out.since hs (fun e=>pX.out qy.out K4.out.gl.isMap e);have h2:=Xx.out.since hs (fun e=>pX.out Xx.out K4.out.gl.isMap e);exact⟨h1.cell 0,h2.cell 1⟩
   have XA:=kH ma;have hlX:=D9.lt;have hrX:=hBX.lt;have e0:=hBX.cell 0;have e1:=D9.cell 1;have hs0:aA (fun x=>x=g) X X.drew:=(aA.refl _ X).drew;clear hX hbX D9 hBX uO hGi S9 d0 d1 d2 t0 t1 t2 t3 t4 ma Sw HGr;go_region_held3 (fun w'=>w'.cell? ⟨rp,0,none⟩=some (.map (some g))/\w'.cell? ⟨wr.heap.size,1,none⟩=some (.string ux)) (exact XA.out _ (by assumption)) ((go_at_call 144;refine(MQ Gi.globals g ux num X.drew (aY.drew K4.out.gl)).mono ?_;rintro e w2 ⟨rfl,hm2,hs2⟩;have hs3:=hs0.trans hs2))
   have hG2:CG g f kk ⟨oP Gi.globals ux num,Gi.fields,Gi.kinds⟩ w2:=⟨hm2,K4.out.fl.since hs3 (fun e=>jv.out.1 e.symm),K4.out.kn.since hs3 (fun e=>jv.out.2.1 e.symm)⟩
   have hB2:=qy.out.since hs3 (fun e=>pX.out qy.out K4.out.gl.isMap e);have mP:=Xx.out.since hs3 (fun e=>pX.out Xx.out K4.out.gl.isMap e);have HS2:Hid (aA (fun x=>x=g\/x=f\/x=kk) w w2):=kH (Bg.out.step hs3 (fun x e=>.inl (.inl e)));have HZ2:Hid (wr.heap.size<w2.heap.size/\w.heap.size<=wr.heap.size):=kH ⟨mP.lt,Mt⟩;have HG2:=kH hG2;have HB2:=kH hB2;have HT2:=kH mP;have e2:=hB2.cell 2;have t0:=mP.cell 0;have hl2:=mP.lt;have hr2:=hB2.lt;clear hs3 hs2 hs0 hm2 hG2 hB2 mP K4 Bg Xx qy XA hlX hrX e0 e1;go_wp2_with fail
   refine gN (fun w'=>w'.cell? ⟨rp,2,none⟩=some (.map (some kk))/\w'.cell? ⟨wr.heap.size,0,none⟩=some (.int .i64 uk)) [7] [true,true,true,true,true,true,true,false] (by kernel_rfl) (by kernel_rfl) rfl (by kernel_rfl) ?_;have hS0:w2.drew.cell? ⟨rp,2,none⟩=some (.map (some kk))/\w2.drew.cell? ⟨wr.heap.size,0,none⟩=some (.int .i64 uk):=⟨e2,t0⟩
   iterate 7(refine jL rfl hS0 (by intro w' hSw;obtain⟨hs1,hs2⟩:=hSw;go_simp;rfl) ?_;simp only[Act.put,sA,sZ,sC])
   obtain⟨w4,hrun,iI,hg4,hz4⟩:=bU (P:=Tryz.prog) (KK:=iN) (t:=71) (kt:=3) (et:=3) Tryz.underlying71 Tryz.underlying3 (aY.drew HG2.out.kn) (num:Int) (.int .i64 uk);change (Instr.mapUpdate 71 (.map (some kk)) (Value.int .i64 (num:Int)) (.int .i64 uk)).run Tryz.prog w2.drew=_ at hrun;have hs4:aA (fun g=>g=kk) w2 w4:=((aA.refl (fun g=>g=kk) w2).drew).grown hg4 (fun k hk=>by cases hk;exact .inl rfl);rw[Od]at iI;have hG4:CG g f kk ⟨oP Gi.globals ux num,Gi.fields,dK Gi.kinds (num:Int) uk⟩ w4:=⟨HG2.out.gl.since hs4 (fun e=>jv.out.2.1 e),HG2.out.fl.since hs4 (fun e=>jv.out.2.2 e),iI⟩
   have hB4:=HB2.out.since hs4 (fun e=>pX.out HB2.out HG2.out.kn.isMap e);have lD:=HT2.out.since hs4 (fun e=>pX.out HT2.out HG2.out.kn.isMap e);have HS4:Hid (aA (fun x=>x=g\/x=f\/x=kk) w w4):=kH (HS2.out.step hs4 (fun x e=>.inl (.inr (.inr e))));have HZ4:Hid (wr.heap.size<w4.heap.size/\w.heap.size<=wr.heap.size):=kH ⟨lD.lt,HZ2.out.2⟩;have Ng:=kH hG4;have pK:=kH hB4;have HT4:=kH lD;have f4:=lD.cell 4;have hl4:=lD.lt;refine j4 (w':=w4) rfl (by simp[execOp,Act.eval,hrun,Result.andThen]) (by simp) ?_;refine kV ?_;simp only[Act.put];obtain⟨Sj,YK⟩:∃q,Gi.fields=q:=⟨_,rfl⟩
   rw[YK]at Ng;have K7:=kH YK;have hnb2:(num:Int)<=1000000000:=by have:=iZ kids i;have:=FO.out;have:=HM.out;omega
   have hwn:IntKind.i64.wrap ((num:Int)+1)=(num:Int)+1:=IntWalk.i64_in _ (by omega)
   have HUC:Hid (1+ag qo=ai u/\num+ai u<=1000000000):=kH (by
    have h1:=jO u;have h2:=gP kids i u HU.out;have h3:=iZ kids (i+1);have h4:=FO.out;have h5:=HM.out;rw[Ls]at h1
    exact⟨by omega,by omega⟩)
   have hub:un<=1000000000:=by have:=HUC.out;have:=dU qo;have:=HUN.out;omega
   clear hs4 hG4 hB4 lD iI hg4 hz4 hrun HG2 HB2 HT2 HS2 HZ2 e2 t0 hl2 hr2 YK;go_wp2_with fail
   obtain⟨wo,hwo⟩:∃wo:World,wo=wr:=⟨_,rfl⟩
   subst hwo;obtain⟨go,hgo⟩:∃go:Nat,go=gk:=⟨_,rfl⟩
   subst hgo;go_loopg [8,39] un (fun gk s8 s39 wr=> ∃j:Nat,j+gk=un/\s8= .int .i64 ((num+1+ag (qo.take j):Nat):Int)/\s39= .int .i64 (j:Int)/\Hid (CG g f kk ⟨oP Gi.globals ux num,ib (qo.take j) (num+1) Sj,dK Gi.kinds (num:Int) uk⟩ wr)/\Hid (aA (fun x=>x=g\/x=f\/x=kk) w4 wr))
   case atStart=>exact⟨0,by omega,by simp[ag],rfl,Ng,kH (aA.refl _ _)⟩
   case round=>
    obtain⟨j,hj,rfl,rfl,HGj,Na⟩:=hrel;have HJ:=kH hj;have hjn:j<=un:=by omega
    have Xy:Hid (aA (fun x=>x=g\/x=f\/x=kk) w wr):=kH (HS4.out.trans Na.out)
    have hTj:=HT4.out.since Na.out (fun e=>by
     rcases e with e|e|e
     ·exact pX.out HT4.out Ng.out.gl.isMap e
     ·exact pX.out HT4.out Ng.out.fl.isMap e
     ·exact pX.out HT4.out Ng.out.kn.isMap e)
    have hBj:=pK.out.since Na.out (fun e=>by
     rcases e with e|e|e
     ·exact pX.out pK.out Ng.out.gl.isMap e
     ·exact pX.out pK.out Ng.out.fl.isMap e
     ·exact pX.out pK.out Ng.out.kn.isMap e)
    clear hj;by_cases hjt:j<un
    ·have hjt':(j:Int)<(un:Int):=by omega
     obtain⟨v,hv⟩:∃v,qo[j]? =some v:=⟨_,aaf (by rw[HUN.out];exact hjt)⟩
     have hbW:Below B w wr:=Xy.out.toBelow CK.out.2.2.2 Ei.out;obtain⟨vals,⟨bb,ob,hA2,Pw,hcs⟩,mP⟩:=HK'.out.get j v hv;obtain⟨A2,c2,lh,hK2⟩:=mP.five;subst hA2;subst lh;have hzj:=Xy.out.size;have hbw:=CK.out.2.2.2;have YX:bb<wr.heap.size:=by omega
     have Dn:∀Z,aA (fun x=>x=g\/x=f\/x=kk) w Z->Calls Tryz.prog 77 #[bB v A2 c2] Z fun e w'=>e= .returned (.int .i64 (ai v:Int))/\Below Z.heap.size Z w':=fun Z hZ=>
      Fx v A2 c2 Z (by have h1:=gP qo j v hv;have h2:=iZ qo (j+1);have h3:=HUC.out;omega) (aK.mono (aac hbw hZ.size) _ _ _ (aK.since hZ hbw Ei.out hK2))
     unfold bB at Dn;obtain⟨vk,hvk⟩:∃q,v.kind=q:=⟨_,rfl⟩
     obtain⟨vx,GM⟩:∃q,v.text=q:=⟨_,rfl⟩
     obtain⟨va,hva⟩:∃q,v.at_=q:=⟨_,rfl⟩
     obtain⟨vz,hvz⟩:∃q,v.end_=q:=⟨_,rfl⟩
     obtain⟨vn,eG⟩:∃q,v.kids.length=q:=⟨_,rfl⟩
     obtain⟨cv,hcv⟩:∃q,ai v=q:=⟨_,rfl⟩
     rw[hvk,GM,hva,hvz,eG,hcv]at Dn;have t0:wr.cell? ⟨bb,ob+j*5,none⟩=some (.int .i64 vk):=(hbW.cell (p:=⟨bb,_,none⟩) Pw).trans (by rw[<- hvk];simpa using hcs 0 _ rfl);have t1:wr.cell? ⟨bb,ob+j*5+1,none⟩=some (.string vx):=(hbW.cell (p:=⟨bb,_,none⟩) Pw).trans (by rw[<- GM];simpa using hcs 1 _ rfl);have t2:wr.cell? ⟨bb,ob+j*5+2,none⟩=some (.int .i64 va):=(hbW.cell (p:=⟨bb,_,none⟩) Pw).trans (by rw[<- hva];simpa using hcs 2 _ rfl);have t3:wr.cell? ⟨bb,ob+j*5+3,none⟩=some (.int .i64 vz):=(hbW.cell (p:=⟨bb,_,none⟩) Pw).trans (by rw[<- hvz];simpa using hcs 3 _ rfl);have t4:wr.cell? ⟨bb,ob+j*5+4,none⟩=some (.slice A2 vn c2):=(hbW.cell (p:=⟨bb,_,none⟩) Pw).trans (by rw[<- eG];simpa using hcs 4 _ rfl);obtain⟨at_,hat⟩:∃q,num+1+ag (qo.take j)=q:=⟨_,rfl⟩
     have hsum:at_+cv<=1000000000:=by have h1:=gP qo j v hv;have h2:=iZ qo (j+1);have h3:=HUC.out;omega
     have hws:IntKind.i64.wrap ((at_:Int)+(cv:Int))=(at_:Int)+(cv:Int):=IntWalk.i64_in _ (by omega);have hwj:IntKind.i64.wrap ((j:Int)+1)=(j:Int)+1:=IntWalk.i64_in _ (by omega);have hnxt:((at_:Int)+(cv:Int))=((num+1+ag (qo.take (j+1)):Nat):Int):=by have h1:=gP qo j v hv;omega
     have hcF:ib (qo.take (j+1)) (num+1) Sj=if vk=4 then oP (ib (qo.take j) (num+1) Sj) vx (at_:Int) else ib (qo.take j) (num+1) Sj:=by
      rw[yl hv,Ef,hvk,GM,hat]
     rw[hat];have HCF:=kH hcF;have aZ:=kH hnxt;have HCV:=kH Dn;have hTj1:=hTj.lt;have hrj:=hBj.lt;have HTj:=kH hTj;have HBj:=kH hBj;clear hcs mP hK2 hv hbW hcF hnxt Dn hvk GM hva hvz eG hcv hat hTj hBj;by_cases hv4:vk=4
     ·subst hv4
      rw[if_pos rfl]at HCF;go_wp2_with fail
      generalize hY:wr.alloc (.cells #[.int .i64 4,.string vx,.int .i64 va,.int .i64 vz,.slice A2 vn c2] 24)=Y
      have hbY:Below wr.heap.size wr Y:=by rw[<- hY];exact ae _ _
      have hTY:ak Y wr.heap.size 24 #[.int .i64 4,.string vx,.int .i64 va,.int .i64 vz,.slice A2 vn c2]:=by rw[<- hY];exact ak.new wr _ _
      have Sz:Hid (aA (fun x=>x=g\/x=f\/x=kk) w4 Y):=kH (Na.out.below hbY);have QP:=kH (HGj.out.below hbY);have hBY:=HBj.out.below hbY hrj;have Xw:=kH hTY;have Ni:=kH hBY
      have ma:∀W':World,aA (fun x=>x=f) Y W'->W'.cell? ⟨rp,1,none⟩=some (.map (some f))/\W'.cell? ⟨wr.heap.size,1,none⟩=some (.string vx):=fun W' hs=>by
       have h1:=Ni.out.since hs (fun e=>pX.out Ni.out QP.out.fl.isMap e);have h2:=Xw.out.since hs (fun e=>pX.out Xw.out QP.out.fl.isMap e);exact⟨h1.cell 1,h2.cell 1⟩
      have XA:=kH ma;have hlY:=hTY.lt;have Ww:=hBY.lt;have e0:=hBY.cell 1;have e1:=hTY.cell 1;have hs0:aA (fun x=>x=f) Y Y.drew:=(aA.refl _ Y).drew;clear hY hbY hTY hBY ma t0 t1 t2 t3 t4;go_region_held3 (fun w'=>w'.cell? ⟨rp,1,none⟩=some (.map (some f))/\w'.cell? ⟨wr.heap.size,1,none⟩=some (.string vx)) (exact XA.out _ (by assumption)) ((go_at_call 144;refine(MQ (ib (qo.take j) (num+1) Sj) f vx at_ Y.drew (aY.drew QP.out.fl)).mono ?_;rintro e w6 ⟨rfl,dM,hs6⟩;have hs7:=hs0.trans hs6))
      have hG6:CG g f kk ⟨oP Gi.globals ux num,oP (ib (qo.take j) (num+1) Sj) vx (at_:Int),dK Gi.kinds (num:Int) uk⟩ w6:=⟨QP.out.gl.since hs7 (fun e=>jv.out.1 e),dM,QP.out.kn.since hs7 (fun e=>jv.out.2.2 e.symm)⟩
      have qR:=Xw.out.since hs7 (fun e=>pX.out Xw.out QP.out.fl.isMap e);have HSX6:Hid (aA (fun x=>x=g\/x=f\/x=kk) w4 w6):=kH (Sz.out.step hs7 (fun x e=>.inl (.inr (.inl e))));have t0:=qR.cell 0;have t1:=qR.cell 1;have t2:=qR.cell 2;have t3:=qR.cell 3;have t4:=qR.cell 4;have hl6:=qR.lt;have HG6:=kH hG6;clear hs7 hs6 hs0 dM hG6 qR QP Sz Xw Ni XA hlY Ww e0 e1;go_wp2_with fail
      refine(HCV.out w6 (HS4.out.trans HSX6.out)).mono ?_;rintro e w7 ⟨rfl,dQ⟩;have gT:=kH dQ;clear dQ t0 t1 t2 t3 t4;go_wp2_with fail
      go_roundg (gk - 1)
      case measure=>have:=HJ.out;omega
      case rel=>exact⟨j+1,by have:=HJ.out;omega,by rw[aZ.out],by simp,kH (by rw[HCF.out];exact HG6.out.below gT.out),kH (HSX6.out.below gT.out)⟩
     ·rw[if_neg hv4]at HCF
      go_wp2_with fail
      refine(HCV.out _ (Xy.out.below (ae _ _))).mono ?_;rintro e w7 ⟨rfl,dQ⟩;have gT:Hid (Below wr.heap.size wr w7):=kH ((ae _ _).trans (dQ.mono (by simp)));clear dQ t0 t1 t2 t3 t4;go_wp2_with fail
      go_roundg (gk - 1)
      case measure=>have:=HJ.out;omega
      case rel=>exact⟨j+1,by have:=HJ.out;omega,by rw[aZ.out],by simp,kH (by rw[HCF.out];exact HGj.out.below gT.out),kH (Na.out.below gT.out)⟩
    ·have hje:j=un:=by omega
     have t0:=hTj.cell 0;have t1:=hTj.cell 1;have t2:=hTj.cell 2;have t3:=hTj.cell 3;have t4:=hTj.cell 4;have RX:=hTj.lt
     have HGE:Hid (CG g f kk (iQ (kids.take (i+1)) 1 ⟨[],[],[]⟩) wr):=kH (by
      have h1:=HGj.out;rw[hje,<- HUN.out,List.take_length]at h1;rw[yl HU.out,Ee,uL.out,FO.out,DX,Ls,DY,K7.out]
      exact h1)
     have aZ:Hid (((num:Int)+(ai u:Int))=((1+ag (kids.take (i+1)):Nat):Int)):=kH (by
      have h1:=gP kids i u HU.out;have h2:=FO.out
      omega)
     have qa:=XL.out wr Xy.out;obtain⟨cu,hcu2⟩:∃q,ai u=q:=⟨_,rfl⟩
     rw[hcu2]at qa aZ;have hsum:num+cu<=1000000000:=by have:=HUC.out;omega
     have hws:IntKind.i64.wrap ((num:Int)+(cu:Int))=(num:Int)+(cu:Int):=IntWalk.i64_in _ (by omega);have hwi:IntKind.i64.wrap ((i:Int)+1)=(i:Int)+1:=IntWalk.i64_in _ (by omega);have HC:=kH qa;clear hTj hBj qa hcu2 hje;go_wp2_with fail
     refine HC.out.mono ?_;rintro e w7 ⟨rfl,dQ⟩;have gT:=kH dQ;clear dQ t0 t1 t2 t3 t4;go_wp2_with fail
     go_roundg (go - 1)
     case measure=>have:=HI.out;omega
     case rel=>exact⟨i+1,by have:=HI.out;omega,by rw[aZ.out],by simp,kH (HGE.out.below gT.out),kH (Xy.out.below gT.out)⟩
  ·have hie:i=n:=by omega
   have HGE:Hid (CG g f kk (iQ kids 1 ⟨[],[],[]⟩) wr):=kH (by
    have h1:=HGr.out;rw[hie,<- HN.out,List.take_length]at h1
    exact h1)
   clear hie;go_wp2_with fail
   go_end0
   exact⟨rfl,HGE.out,Sw.out⟩
end Go.Proofs.YtoepemlnlpamlaaGreat
namespace Go.Proofs.YtoepemlnlpamlaaGreat
def aB(r:RS)(i:Bool)(v:List Int):RS:={ r with next:=r.next+1,bH:=if i then dK r.bH (r.next:Int) v else r.bH }
def ik(G:bD)(s:aT)(r u:RS)(t:aa):RS:=
 if t.kind=20 then gB u r.next t (eO s t.text)
 else if t.kind=22 then gB u r.next t (bY G.fields t.text)
 else if t.kind=27 then gB u r.next t (bY G.globals t.text)
 else if t.kind=19 then gB u r.next t ((bY G.globals t.text).filter fun j=>decide (mM G j=5))
 else if t.kind=9/\iB t.text=false then gB u r.next t ((bY G.globals t.text).filter fun j=>decide (mM G j=3))
 else u
theorem di(G:bD)(i:Bool)(k:Int)(x:ByteArray)(a e:Int)(kids:List aa)(s:aT)(r:RS):aL G i (.node k x a e kids) s r=
 if k=3 then af G i kids 0 kids.length s { bF (aB r i (ah (aj s))) 0 r.next (.node k x a e kids) (decide ((bY G.globals x).getD 0≠(r.next:Int))) with owner:=(r.next:Int) }
 else if k=4 then af G i kids 0 kids.length s (bF (aB r i (ah (aj s))) 1 r.next (.node k x a e kids) (decide ((bY G.fields x).getD 0≠(r.next:Int))))
 else if k=5 then((af G true kids 2 1 ([]::(af G false kids 0 2 [[]] { bF (aB r i (ah (aj s))) 2 r.next (.node k x a e kids) (decide ((bY G.globals x).getD 0≠(r.next:Int))) with owner:=(r.next:Int) }).2) (af G false kids 0 2 [[]] { bF (aB r i (ah (aj s))) 2 r.next (.node k x a e kids) (decide ((bY G.globals x).getD 0≠(r.next:Int))) with owner:=(r.next:Int) }).1).1,s)
 else if k=7\/k=8 then af G i kids 0 kids.length (aD G (aB r i (ah (aj s))) 3 r.next (.node k x a e kids) s).2 (aD G (aB r i (ah (aj s))) 3 r.next (.node k x a e kids) s).1
 else if k=11 then((af G i kids 0 kids.length ([]::s) (aB r i (ah (aj s)))).1,(af G i kids 0 kids.length ([]::s) (aB r i (ah (aj s)))).2.tail)
 else if k=12 then((af G i kids 0 2 s (aD G (aB r i (ah (aj s))) 4 r.next (.node k x a e kids) ([]::s)).1).1,lL (af G i kids 0 2 s (aD G (aB r i (ah (aj s))) 4 r.next (.node k x a e kids) ([]::s)).1).2 ((aD G (aB r i (ah (aj s))) 4 r.next (.node k x a e kids) ([]::s)).2.headD []))
 else if k=16 then((af G i kids 2 1 ((aD G (aB r i (ah (aj s))) 5 r.next (.node k x a e kids) ([]::s)).2.headD []::(af G i kids 0 2 s (aD G (aB r i (ah (aj s))) 5 r.next (.node k x a e kids) ([]::s)).1).2) (af G i kids 0 2 s (aD G (aB r i (ah (aj s))) 5 r.next (.node k x a e kids) ([]::s)).1).1).1,
  (af G i kids 2 1 ((aD G (aB r i (ah (aj s))) 5 r.next (.node k x a e kids) ([]::s)).2.headD []::(af G i kids 0 2 s (aD G (aB r i (ah (aj s))) 5 r.next (.node k x a e kids) ([]::s)).1).2) (af G i kids 0 2 s (aD G (aB r i (ah (aj s))) 5 r.next (.node k x a e kids) ([]::s)).1).1).2.tail)
 else af G i kids 0 kids.length s (ik G s r (aB r i (ah (aj s))) (.node k x a e kids)):=by
 rw[aL];rfl
mutual
def Qz:aa->Bool
 | .node k _ _ _ kids=>decide (k≠2/\k≠3/\k≠4/\k≠5)&&(decide (k≠12) || decide (kids.length=2))&&(decide (k≠16) || decide (kids.length=3))&&vF kids
def vF:List aa->Bool
 | []=>true
 | t::ts=>Qz t&&vF ts
end
def dL(s:aT):List (List ByteArray):=s.map fun l=>l.map (·.1)
theorem Cq{K V:Type}[DecidableEq K]:∀(l:List (K×V)) (k:K),(bG l k).isSome=(l.map (·.1)).any fun y=>decide (k=y)
 | [],_=>rfl
 | x::l,k=>by
  rw[bG,List.map_cons,List.any_cons];by_cases h:k=x.1
  ·rw[if_pos h,decide_eq_true h];rfl
  ·rw[if_neg h,decide_eq_false h,Cq l k];rfl
theorem Cg:∀(s:aT) (x:ByteArray),(eO s x).isSome=(dL s).any fun l=>l.any fun y=>decide (x=y)
 | [],_=>rfl
 | l::s,x=>by
  have h1:(bG l x).isSome=_:=Cq l x;have h2:=Cg s x;unfold dL at h2⊢;rw[List.map_cons,List.any_cons,<- h1,<- h2];rw[eO]
  cases h:bY l x with
  | none=>rw[show bG l x=none from h];rfl
  | some k=>rw[show bG l x=some k from h];rfl
theorem G5{s1 s2:aT}(h:dL s1=dL s2)(x:ByteArray):(eO s1 x).isSome=(eO s2 x).isSome:=by
 rw[Cg,Cg,h]
theorem Mf{K V W:Type}[DecidableEq K]:∀(l:List (K×V)) (m:List (K×W)) (k:K) (v:V) (u:W),l.map (·.1)=m.map (·.1)->(dK l k v).map (·.1)=(dK m k u).map (·.1)
 | [],[],_,_,_,_=>rfl
 | [],_::_,_,_,_,h=>by cases h
 | _::_,[],_,_,_,h=>by cases h
 | x::l,y::m,k,v,u,h=>by
  simp only[List.map_cons,List.cons.injEq]at h;rw[dK,dK,h.1];by_cases hk:k=y.1
  ·rw[if_pos hk,if_pos hk,List.map_cons,List.map_cons,h.2]
  ·rw[if_neg hk,if_neg hk,List.map_cons,List.map_cons,h.1,Mf l m k v u h.2]
theorem Kq:∀(a b l m:nA),l.map (·.1)=m.map (·.1)->a.map (·.1)=b.map (·.1)->(l.foldl (fun a y=>dK a y.1 y.2) a).map (·.1)=(m.foldl (fun a y=>dK a y.1 y.2) b).map (·.1)
 | _,_,[],[],_,h=>h
 | _,_,[],_::_,h,_=>by cases h
 | _,_,_::_,[],h,_=>by cases h
 | a,b,x::l,y::m,h,h2=>by
  simp only[List.map_cons,List.cons.injEq]at h;rw[List.foldl_cons,List.foldl_cons];refine Kq _ _ l m h.2 ?_;rw[h.1];exact Mf a b _ _ _ h2
theorem FH{s1 s2:aT}{l m:nA}(h:dL s1=dL s2)(hl:l.map (·.1)=m.map (·.1)):dL (lL s1 l)=dL (lL s2 m):=by
 cases s1 with
 | nil=>cases s2 with
  | nil=>rfl
  | cons b s2=>cases h
 | cons a s1=>cases s2 with
  | nil=>cases h
  | cons b s2=>
   unfold dL at h⊢;simp only[List.map_cons,List.cons.injEq]at h;simp only[lL,List.map_cons,h.2];rw[Kq a b l m hl h.1]
theorem Jv{s1 s2:aT}(h:dL s1=dL s2):dL s1.tail=dL s2.tail:=by
 unfold dL at h⊢;rw[List.map_tail,List.map_tail,h]
theorem wY{s1 s2:aT}{l m:nA}(h:dL s1=dL s2)(hl:l.map (·.1)=m.map (·.1)):dL (l::s1)=dL (m::s2):=by
 unfold dL at h⊢;rw[List.map_cons,List.map_cons,h,hl]
theorem Ke{s1 s2:aT}(h:dL s1=dL s2):(s1.headD []).map (·.1)=(s2.headD []).map (·.1):=by
 cases s1 with
 | nil=>cases s2 with
  | nil=>rfl
  | cons b s2=>cases h
 | cons a s1=>cases s2 with
  | nil=>cases h
  | cons b s2=>
   unfold dL at h;simp only[List.map_cons,List.cons.injEq]at h;exact h.1
structure yh (G1 G2:bD):Prop where
 gl:∀x,(bY G1.globals x).isSome=(bY G2.globals x).isSome
 fl:∀x,(bY G1.fields x).isSome=(bY G2.fields x).isSome
 kd:∀x (K:Int),((bY G1.globals x).filter fun j=>decide (mM G1 j=K)).isSome=((bY G2.globals x).filter fun j=>decide (mM G2 j=K)).isSome
theorem yh.refl(G:bD):yh G G:=⟨fun _=>rfl,fun _=>rfl,fun _ _=>rfl⟩
structure Gr (m:Nat) (r1 q1 r2 q2:RS) (p d:Nat):Prop where
 p1:q1.aR.length=r1.aR.length+p
 p2:q2.aR.length=r2.aR.length+p
 d1:q1.ds.length=r1.ds.length+d
 d2:q2.ds.length=r2.ds.length+d
 n1:q1.next=r1.next+m
 n2:q2.next=r2.next+m
def vU(m:Nat)(r1 q1 r2 q2:RS):Prop:=∃p d,Gr m r1 q1 r2 q2 p d
theorem vU.trans{m m' n:Nat}{r1 q1 u1 r2 q2 u2:RS}(h:vU m r1 q1 r2 q2)(k:vU m' q1 u1 q2 u2)(hn:n=m+m'):vU n r1 u1 r2 u2:=by
 obtain⟨p,d,h⟩:=h;obtain⟨p',d',k⟩:=k;refine⟨p+p',d+d',?_,?_,?_,?_,?_,?_⟩
 ·rw[k.p1,h.p1];omega
 ·rw[k.p2,h.p2];omega
 ·rw[k.d1,h.d1];omega
 ·rw[k.d2,h.d2];omega
 ·rw[k.n1,h.n1];omega
 ·rw[k.n2,h.n2];omega
theorem vU.refl(r1 r2:RS):vU 0 r1 r1 r2 r2:=⟨0,0,rfl,rfl,rfl,rfl,rfl,rfl⟩
theorem Si(r1 r2:RS)(c:Int)(n1 n2:Nat)(t:aa):vU 0 r1 (pV r1 c n1 t) r2 (pV r2 c n2 t):=⟨1,0,by simp[pV],by simp[pV],rfl,rfl,rfl,rfl⟩
theorem Ze(r1 r2:RS)(c:Int)(n1 n2:Nat)(t:aa):vU 0 r1 (jk r1 c n1 t) r2 (jk r2 c n2 t):=⟨0,1,rfl,rfl,by simp[jk],by simp[jk],rfl,rfl⟩
theorem Cw(r1 r2:RS)(n1 n2:Nat)(t:aa)(a b:Option Int)(h:a.isSome=b.isSome):vU 0 r1 (gB r1 n1 t a) r2 (gB r2 n2 t b):=by
 cases a with
 | none=>cases b with
  | none=>exact Si _ _ _ _ _ _
  | some y=>cases h
 | some x=>cases b with
  | none=>cases h
  | some y=>exact⟨0,0,rfl,rfl,rfl,rfl,rfl,rfl⟩
theorem AB{G1 G2:bD}(hG:yh G1 G2)(r1 r2:RS)(c:Int)(n1 n2:Nat)(t:aa){s1 s2:aT}(hs:dL s1=dL s2):
 vU 0 r1 (aD G1 r1 c n1 t s1).1 r2 (aD G2 r2 c n2 t s2).1/\dL (aD G1 r1 c n1 t s1).2=dL (aD G2 r2 c n2 t s2).2:=by
 unfold aD;rw[G5 hs,hG.gl];split
 ·exact⟨Si _ _ _ _ _ _,hs⟩
 ·exact⟨Ze _ _ _ _ _ _,FH hs rfl⟩
mutual
theorem WT{G1 G2:bD}(hG:yh G1 G2):∀(t:aa) (i:Bool) (s1 s2:aT) (r1 r2:RS),Qz t=true->dL s1=dL s2 ->
 vU (ai t) r1 (aL G1 i t s1 r1).1 r2 (aL G2 i t s2 r2).1/\dL (aL G1 i t s1 r1).2=dL (aL G2 i t s2 r2).2
 | .node k x a e kids,i,s1,s2,r1,r2,hin,hs=>by
  rw[Qz]at hin;simp only[aad,Bool.or_eq_true,decide_eq_true_eq]at hin;obtain⟨⟨⟨⟨k2,k3,k4,k5⟩,h12⟩,h16⟩,hks⟩:=hin;have h0:∀v1 v2,vU 1 r1 { r1 with next:=r1.next+1,bH:=v1 } r2 { r2 with next:=r2.next+1,bH:=v2 }:=fun v1 v2=>⟨0,0,rfl,rfl,rfl,rfl,rfl,rfl⟩
  rw[aL,aL,ai];simp only[if_neg k3,if_neg k4,if_neg k5];by_cases Qd:k=7\/k=8
  ·simp only[if_pos Qd]
   obtain⟨a1,a2⟩:=AB hG { r1 with next:=r1.next+1,bH:=if i then dK r1.bH (r1.next:Int) (ah (aj s1)) else r1.bH } { r2 with next:=r2.next+1,bH:=if i then dK r2.bH (r2.next:Int) (ah (aj s2)) else r2.bH } 3 r1.next r2.next (.node k x a e kids) hs;obtain⟨b1,b2⟩:=mR hG kids i 0 kids.length _ _ _ _ hks a2;refine⟨((h0 _ _).trans (a1.trans b1 rfl) ?_),b2⟩;simp
  simp only[if_neg Qd];by_cases h11:k=11
  ·simp only[if_pos h11]
   obtain⟨b1,b2⟩:=mR hG kids i 0 kids.length ([]::s1) ([]::s2) { r1 with next:=r1.next+1,bH:=if i then dK r1.bH (r1.next:Int) (ah (aj s1)) else r1.bH } { r2 with next:=r2.next+1,bH:=if i then dK r2.bH (r2.next:Int) (ah (aj s2)) else r2.bH } hks (wY hs rfl);refine⟨(h0 _ _).trans b1 ?_,Jv b2⟩;simp
  simp only[if_neg h11];by_cases kX:k=12
  ·simp only[if_pos kX]
   have hl:kids.length=2:=h12.resolve_left (by simp[kX]);obtain⟨a1,a2⟩:=AB hG { r1 with next:=r1.next+1,bH:=if i then dK r1.bH (r1.next:Int) (ah (aj s1)) else r1.bH } { r2 with next:=r2.next+1,bH:=if i then dK r2.bH (r2.next:Int) (ah (aj s2)) else r2.bH } 4 r1.next r2.next (.node k x a e kids) (wY (l:=[]) (m:=[]) hs rfl);obtain⟨b1,b2⟩:=mR hG kids i 0 2 s1 s2 _ _ hks hs;refine⟨((h0 _ _).trans (a1.trans b1 rfl) ?_),FH b2 (Ke a2)⟩;rw[<- hl];simp
  simp only[if_neg kX];by_cases nI:k=16
  ·simp only[if_pos nI]
   have hl:kids.length=3:=h16.resolve_left (by simp[nI]);obtain⟨a1,a2⟩:=AB hG { r1 with next:=r1.next+1,bH:=if i then dK r1.bH (r1.next:Int) (ah (aj s1)) else r1.bH } { r2 with next:=r2.next+1,bH:=if i then dK r2.bH (r2.next:Int) (ah (aj s2)) else r2.bH } 5 r1.next r2.next (.node k x a e kids) (wY (l:=[]) (m:=[]) hs rfl);obtain⟨b1,b2⟩:=mR hG kids i 0 2 s1 s2 _ _ hks hs;obtain⟨c1,c2⟩:=mR hG kids i 2 1 _ _ _ _ hks (wY b2 (Ke a2));refine⟨((h0 _ _).trans (a1.trans (b1.trans c1 rfl) rfl) ?_),Jv c2⟩
   match kids,hl with
   | [a,b,c],_=>simp[ag];omega
  simp only[if_neg nI]
  have hb:∀u1 u2,vU 1 r1 u1 r2 u2->vU (1+ag kids) r1 (af G1 i kids 0 kids.length s1 u1).1 r2 (af G2 i kids 0 kids.length s2 u2).1/\dL (af G1 i kids 0 kids.length s1 u1).2=dL (af G2 i kids 0 kids.length s2 u2).2:=fun u1 u2 hu=>by
   obtain⟨b1,b2⟩:=mR hG kids i 0 kids.length s1 s2 u1 u2 hks hs;exact⟨hu.trans b1 (by simp),b2⟩
  apply hb
  by_cases h20:k=20
  ·simp only[if_pos h20];exact(h0 _ _).trans (Cw _ _ _ _ _ _ _ (G5 hs x)) rfl
  simp only[if_neg h20];by_cases h22:k=22
  ·simp only[if_pos h22];exact(h0 _ _).trans (Cw _ _ _ _ _ _ _ (hG.fl x)) rfl
  simp only[if_neg h22];by_cases h27:k=27
  ·simp only[if_pos h27];exact(h0 _ _).trans (Cw _ _ _ _ _ _ _ (hG.gl x)) rfl
  simp only[if_neg h27];by_cases h19:k=19
  ·simp only[if_pos h19];exact(h0 _ _).trans (Cw _ _ _ _ _ _ _ (hG.kd x 5)) rfl
  simp only[if_neg h19];by_cases h9:k=9/\iB x=false
  ·simp only[if_pos h9];exact(h0 _ _).trans (Cw _ _ _ _ _ _ _ (hG.kd x 3)) rfl
  simp only[if_neg h9];exact h0 _ _
theorem mR{G1 G2:bD}(hG:yh G1 G2):∀(ts:List aa) (i:Bool) (from_ n:Nat) (s1 s2:aT) (r1 r2:RS),vF ts=true->dL s1=dL s2 ->
 vU (ag ((ts.drop from_).take n)) r1 (af G1 i ts from_ n s1 r1).1 r2 (af G2 i ts from_ n s2 r2).1/\dL (af G1 i ts from_ n s1 r1).2=dL (af G2 i ts from_ n s2 r2).2
 | [],i,f,n,s1,s2,r1,r2,_,hs=>by
  rw[af,af]
  simpa [ag] using⟨vU.refl r1 r2,hs⟩
 | t::ts,i,f+1,n,s1,s2,r1,r2,hin,hs=>by
  rw[vF,aad]at hin;rw[af,af,List.drop_succ_cons];exact mR hG ts i f n s1 s2 r1 r2 hin.2 hs
 | t::ts,i,0,0,s1,s2,r1,r2,hin,hs=>by
  rw[af,af]
  simpa [ag] using⟨vU.refl r1 r2,hs⟩
 | t::ts,i,0,n+1,s1,s2,r1,r2,hin,hs=>by
  rw[vF,aad]at hin;rw[af,af];obtain⟨a1,a2⟩:=WT hG t i s1 s2 r1 r2 hin.1 hs;obtain⟨b1,b2⟩:=mR hG ts i 0 n _ _ _ _ hin.2 a2;refine⟨a1.trans b1 ?_,b2⟩;simp[ag]
end
def Ym:List aa->Nat->List (aa×Nat)
 | [],_=>[]
 | k::ks,n=>(k,n)::Ym ks (n+ai k)
theorem rY{K V:Type}[DecidableEq K]:∀(l:List (K×V)) (k:K) (v:V) (x:K),bG (dK l k v) x=if x=k then some v else bG l x
 | [],k,v,x=>rfl
 | y::l,k,v,x=>by
  rw[dK];by_cases h:k=y.1
  ·rw[if_pos h,bG,bG]
   by_cases hx:x=k
   ·rw[if_pos hx,if_pos hx]
   ·rw[if_neg hx,if_neg hx,if_neg (by rw[<- h];exact hx)]
  ·rw[if_neg h,bG,rY l,bG]
   by_cases hx:x=y.1
   ·rw[if_pos hx,if_pos hx,if_neg (by rw[hx];exact fun e=>h e.symm)]
   ·rw[if_neg hx,if_neg hx]
theorem su(t:aa):1<=ai t:=by cases t;simp[ai]
theorem Rm(t:aa):ai t=1+ag t.kids:=by cases t;rfl
def zF(ks:List aa):bD:=iQ ks 1 ⟨[],[],[]⟩
end Go.Proofs.YtoepemlnlpamlaaGreat
