/- The law NamesBack holds for every text and every number: it returns true, and its arguments read as before. No condition. Part 37: BkS Std4 Copy LawO1 Chg0. -/
import Derived.Test.YtoepemlnlpamlaaGreatBakk23
import Derived.Test.YtoepemlnlpamlaaGreatBakk33
import Derived.Test.YtoepemlnlpamlaaGreatBakk35
import Derived.Test.YtoepemlnlpamlaaGreatBakk36
set_option maxRecDepth 100000
set_option maxHeartbeats 4000000
namespace Go.Proofs.YtoepemlnlpamlaaGreat
open Go.RowKit
def iY(t:aa):List ByteArray:=(dV t).map (·.text)
def Gc(P:Bool->Prop)(w:World)(e:Ending)(w':World):Prop:=∃b,e= .returned (.bool b)/\P b/\Below w.heap.size w w'
def nA(ts:List aa):List ByteArray:=(dh ts).map (·.text)
theorem xP(k:Int)(x:ByteArray)(a e:Int)(ks:List aa):iY (.node k x a e ks)=x::nA ks:=by
 simp[iY,nA,dV,aa.text]
theorem Gl{ks:List aa}{i:Nat}{u:aa}(h:ks[i]? =some u):nA (ks.take (i+1))=nA (ks.take i)++iY u:=by
 have happ:∀a b:List aa,dh (a++b)=dh a++dh b:=by
  intro a
  induction a with
  | nil=>intro b;rfl
  | cons t a ih=>intro b;rw[List.cons_append,dh,dh,ih,List.append_assoc]
 rw[List.take_add_one,h];simp[nA,iY,happ,dh]
theorem YV:∀(m:Nat) (t1 t2:aa) (A1:Option Addr) (c1:Nat) (A2:Option Addr) (c2:Nat) (w:World),ah t1<=m->m<=1000000->aD w w.heap.size A1 0 t1.kids->aD w w.heap.size A2 0 t2.kids ->
 Calls Tryz.prog 29 #[aX t1 A1 c1,aX t2 A2 c2] w (Gc (fun b=>(b=true->iY t1=iY t2)) w):=by
 intro m
 induction m with
 | zero=>
  intro t1 t2 A1 c1 A2 c2 w h;have:=oL t1;omega
 | succ m ih=>
  intro t1 t2 A1 c1 A2 c2 w hm hbig hk1 hk2;obtain⟨k1,x1,a1,e1,pq⟩:=t1;obtain⟨k2,x2,a2,e2,yc⟩:=t2;have hcn:ag pq<=m:=by rw[ah]at hm;omega
  have hkl:=kC pq;obtain⟨n1,hn1⟩:∃q,pq.length=q:=⟨_,rfl⟩
  obtain⟨n2,hn2⟩:∃q,yc.length=q:=⟨_,rfl⟩
  have hv1:aX (.node k1 x1 a1 e1 pq) A1 c1= .agg #[.int .i64 k1,.string x1,.int .i64 a1,.int .i64 e1,.slice A1 n1 c1]:=by rw[<- hn1];rfl
  have hv2:aX (.node k2 x2 a2 e2 yc) A2 c2= .agg #[.int .i64 k2,.string x2,.int .i64 a2,.int .i64 e2,.slice A2 n2 c2]:=by rw[<- hn2];rfl
  rw[hv1,hv2];have hN:n1<=1000000:=by omega
  have Nz:Hid (aD w w.heap.size A1 0 pq):=kH hk1;have Ap:Hid (aD w w.heap.size A2 0 yc):=kH hk2;have eH:=kH ih;have HM:Hid (ag pq<=m/\m<=1000000):=kH ⟨hcn,by omega⟩;have Ny:=kH hn1;have Bd:=kH hn2;by_cases hc:k1=k2/\x1=x2/\n1=n2
  case neg=>
   have HF:Hid (∀w',Below w.heap.size w w'->Gc (fun b=>b=true->iY (.node k1 x1 a1 e1 pq)=iY (.node k2 x2 a2 e2 yc)) w (.returned (.bool false)) w'):=kH fun w' hb=>⟨false,rfl,fun h=>(by cases h),hb⟩
   have hc3:((k1 !=k2) || !(x1.toList==x2.toList) || ((n1:Int) !=(n2:Int)))=true:=by
    rw[Bool.or_eq_true,Bool.or_eq_true];by_cases q1:k1=k2
    ·by_cases q2:x1=x2
     ·refine .inr (bne_iff_ne.2 fun h=>hc ⟨q1,q2,by omega⟩)
     ·refine .inl (.inr ?_)
      have:¬x1.toList=x2.toList:=fun h=>q2 (tQ (by rwa [ByteArray.toList_eq,ByteArray.toList_eq]at h))
      simpa using this
    ·exact .inl (.inl (bne_iff_ne.2 q1))
   obtain⟨p1,hp1⟩:∃q,(k1 !=k2)=q:=⟨_,rfl⟩
   obtain⟨p2,hp2⟩:∃q,(x1.toList==x2.toList)=q:=⟨_,rfl⟩
   obtain⟨p3,hp3⟩:∃q,((n1:Int) !=(n2:Int))=q:=⟨_,rfl⟩
   rw[hp1,hp2,hp3]at hc3;clear hk1 hk2 ih hcn hm hn1 hn2 hv1 hv2 hkl hbig hc HM eH Nz Ap Ny Bd;go_enter Tryz.func29,Tryz.ntmps29
   cases p1<;>cases p2<;>cases p3<;>first|(exact absurd hc3 (by decide))|skip
   all_goals
    go_wp2_with fail
    go_ret
    exact HF.out _ (by(repeat (first|exact Below.refl _ _|assumption|refine Below.trans ?_ (Below.mono (by assumption) (by first|omega|(simp;done)|(simp;omega)))|refine Below.alloc ?_ (by first|omega|(simp;done)|(simp;omega)) _|refine Below.setCell ?_ (by first|omega|(simp;done)|(simp;omega)) _|refine Below.drew ?_|refine aY ?_ _)))
  obtain⟨rfl,rfl,rfl⟩:=hc;have HE:Hid (pq.length=yc.length->nA (pq.take n1)=nA (yc.take n1)->iY (.node k1 x1 a1 e1 pq)=iY (.node k1 x1 a2 e2 yc)):=kH (fun hl h=>by rw[xP,xP];rw[<- hn1,List.take_length,hl,List.take_length]at h;rw[h]);clear hk1 hk2 ih hcn hm hn1 hn2 hv1 hv2 hkl hbig;go_enter Tryz.func29,Tryz.ntmps29
  go_wp2_with fail
  obtain⟨W2,hW2⟩:∃W,(w.alloc (.cells #[.int .i64 k1,.string x1,.int .i64 a1,.int .i64 e1,.slice A1 n1 c1] 24)).alloc (.cells #[.int .i64 k1,.string x1,.int .i64 a2,.int .i64 e2,.slice A2 n1 c2] 24)=W:=⟨_,rfl⟩
  have hb2:Below w.heap.size w W2:=by rw[<- hW2];exact((Below.refl _ w).alloc (aaD _) _).alloc (by simp) _
  have hT1:ai W2 w.heap.size 24 #[.int .i64 k1,.string x1,.int .i64 a1,.int .i64 e1,.slice A1 n1 c1]:=by rw[<- hW2];exact(ai.new w _ _).alloc _
  have gX:ai W2 (w.heap.size+1) 24 #[.int .i64 k1,.string x1,.int .i64 a2,.int .i64 e2,.slice A2 n1 c2]:=by
   rw[<- hW2];have:=ai.new (w.alloc (.cells #[.int .i64 k1,.string x1,.int .i64 a1,.int .i64 e1,.slice A1 n1 c1] 24)) 24 #[.int .i64 k1,.string x1,.int .i64 a2,.int .i64 e2,.slice A2 n1 c2];simpa using this
  have HB2:=kH hb2;have HT1:=kH hT1;have HT2:=kH gX;have HKA:=kH (aD.below hb2 (aaD _) _ _ _ Nz.out);have HKB:=kH (aD.below hb2 (aaD _) _ _ _ Ap.out);have su:Hid (w.heap.size+1<W2.heap.size):=kH gX.lt;clear hb2 hT1 gX;rw[hW2];clear hW2;go_loopg [5] n1 (fun gk s wr=> ∃i:Nat,i+gk=n1/\s= .int .i64 (i:Int)/\Below W2.heap.size W2 wr/\nA (pq.take i)=nA (yc.take i))
  case atStart=>exact⟨0,by omega,rfl,Below.refl _ _,by simp⟩
  case round=>
   obtain⟨i,hi,rfl,hB,ht⟩:=hrel;have QE:=HT1.out.below hB HT1.out.lt;have hNb:=HT2.out.below hB HT2.out.lt;have a4:wr.cell? ⟨w.heap.size,4,none⟩=some (.slice A1 n1 c1):=QE.cell 4;have b4:wr.cell? ⟨w.heap.size+1,4,none⟩=some (.slice A2 n1 c2):=hNb.cell 4;have la:=QE.lt;have lb:=hNb.lt;have HB:=kH hB;have HI:=kH hi;have HT:=kH ht;clear ht;have hi':i<=n1:=by omega
   clear hB hi QE hNb;by_cases hlt:i<n1
   ·have hlt':(i:Int)<(n1:Int):=by omega
    obtain⟨u1,hu1⟩:∃u,pq[i]? =some u:=⟨_,aaH (by rw[Ny.out];exact hlt)⟩
    obtain⟨u2,hu2⟩:∃u,yc[i]? =some u:=⟨_,aaH (by rw[Bd.out];exact hlt)⟩
    obtain⟨v1,⟨g1,o1,hA1,hg1,hc1⟩,hT1⟩:=HKA.out.get i u1 hu1;obtain⟨v2,⟨g2,o2,hA2,hg2,hc2⟩,gX⟩:=HKB.out.get i u2 hu2;obtain⟨B1,d1,hw1,hq1⟩:=hT1.five;obtain⟨B2,d2,hw2,hq2⟩:=gX.five;subst hA1 hA2 hw1 hw2;have hbw:Below w.heap.size W2 wr:=HB.out.mono (by have:=su.out;omega);have hg1':g1<W2.heap.size:=by have:=su.out;omega
    have Qe:g2<W2.heap.size:=by have:=su.out;omega
    have hcell:∀W,Below wr.heap.size wr W->W.cell? ⟨w.heap.size,4,none⟩=some (.slice (some ⟨g1,o1,none⟩) n1 c1)/\W.cell? ⟨w.heap.size+1,4,none⟩=some (.slice (some ⟨g2,o2,none⟩) n1 c2)/\W.cell? ⟨g1,o1+i*5,none⟩=some (.int .i64 u1.kind)/\W.cell? ⟨g1,o1+i*5+1,none⟩=some (.string u1.text)/\W.cell? ⟨g1,o1+i*5+2,none⟩=some (.int .i64 u1.at_)/\W.cell? ⟨g1,o1+i*5+3,none⟩=some (.int .i64 u1.end_)/\W.cell? ⟨g1,o1+i*5+4,none⟩=some (.slice B1 u1.kids.length d1)/\W.cell? ⟨g2,o2+i*5,none⟩=some (.int .i64 u2.kind)/\W.cell? ⟨g2,o2+i*5+1,none⟩=some (.string u2.text)/\W.cell? ⟨g2,o2+i*5+2,none⟩=some (.int .i64 u2.at_)/\W.cell? ⟨g2,o2+i*5+3,none⟩=some (.int .i64 u2.end_)/\W.cell? ⟨g2,o2+i*5+4,none⟩=some (.slice B2 u2.kids.length d2):=fun W hb=>by
     have hz:=HB.out.size;have e1:=fun j v (hj:_=some v)=>(hb.cell (p:=⟨g1,_,none⟩) (Nat.lt_of_lt_of_le hg1' hz)).trans ((HB.out.cell (p:=⟨g1,_,none⟩) hg1').trans (hc1 j v hj))
     have e2:=fun j v (hj:_=some v)=>(hb.cell (p:=⟨g2,_,none⟩) (Nat.lt_of_lt_of_le Qe hz)).trans ((HB.out.cell (p:=⟨g2,_,none⟩) Qe).trans (hc2 j v hj))
     exact⟨(hb.cell (p:=⟨w.heap.size,_,none⟩) la).trans a4,(hb.cell (p:=⟨w.heap.size+1,_,none⟩) lb).trans b4,by simpa using e1 0 _ rfl,by simpa using e1 1 _ rfl,by simpa using e1 2 _ rfl,by simpa using e1 3 _ rfl,by simpa using e1 4 _ rfl,by simpa using e2 0 _ rfl,by simpa using e2 1 _ rfl,by simpa using e2 2 _ rfl,by simpa using e2 3 _ rfl,by simpa using e2 4 _ rfl⟩
    have htk:=gU pq i u1 hu1;have hle:=jk pq (i+1);have hcall:=fun W (hb:Below wr.heap.size wr W)=>eH.out u1 u2 B1 d1 B2 d2 W (by have:=HM.out;omega) HM.out.2 (aD.mono (B:=w.heap.size) (by have:=su.out;have:=HB.out.size;have:=hb.size;omega) _ _ _ (aD.below (HB.out.trans (hb.mono HB.out.size)) (by have:=su.out;omega) _ _ _ hq1)) (aD.mono (B:=w.heap.size) (by have:=su.out;have:=HB.out.size;have:=hb.size;omega) _ _ _ (aD.below (HB.out.trans (hb.mono HB.out.size)) (by have:=su.out;omega) _ _ _ hq2))
    unfold aX at hcall;have HC:=kH hcall;have HS:=kH hcell;have HU:Hid (pq[i]? =some u1/\yc[i]? =some u2):=kH ⟨hu1,hu2⟩;have hwr:IntKind.i64.wrap ((i:Int)+1)=(i:Int)+1:=IntWalk.i64_in _ (by omega);obtain⟨n3,zQ⟩:∃q,u1.kids.length=q:=⟨_,rfl⟩
    obtain⟨k3,hk3⟩:∃q,u1.kind=q:=⟨_,rfl⟩
    obtain⟨x3,hx3⟩:∃q,u1.text=q:=⟨_,rfl⟩
    obtain⟨a3,XB⟩:∃q,u1.at_=q:=⟨_,rfl⟩
    obtain⟨e3,Xv⟩:∃q,u1.end_=q:=⟨_,rfl⟩
    obtain⟨n4,Kj⟩:∃q,u2.kids.length=q:=⟨_,rfl⟩
    obtain⟨k4,hk4⟩:∃q,u2.kind=q:=⟨_,rfl⟩
    obtain⟨x4,hx4⟩:∃q,u2.text=q:=⟨_,rfl⟩
    obtain⟨a5,XA⟩:∃q,u2.at_=q:=⟨_,rfl⟩
    obtain⟨e5,Xu⟩:∃q,u2.end_=q:=⟨_,rfl⟩
    rw[zQ,hk3,hx3,XB,Xv,Kj,hk4,hx4,XA,Xu]at HC HS;clear hc1 hc2 hT1 gX hq1 hq2 htk hle hcall hu1 hu2 zQ hk3 hx3 XB Xv Kj hk4 hx4 XA Xu hcell hbw a4 b4;have hd1:Below wr.heap.size wr wr.drew:=(Below.refl _ _).drew;have hS0:=HS.out _ hd1;have hS1:=HS.out _ (Below.refl _ wr);obtain⟨a4,b4,-⟩:=hS1;go_wp2_with fail
    refine iI (fun W=>W.cell? ⟨w.heap.size,4,none⟩=some (.slice (some ⟨g1,o1,none⟩) n1 c1)/\W.cell? ⟨w.heap.size+1,4,none⟩=some (.slice (some ⟨g2,o2,none⟩) n1 c2)/\W.cell? ⟨g1,o1+i*5,none⟩=some (.int .i64 k3)/\W.cell? ⟨g1,o1+i*5+1,none⟩=some (.string x3)/\W.cell? ⟨g1,o1+i*5+2,none⟩=some (.int .i64 a3)/\W.cell? ⟨g1,o1+i*5+3,none⟩=some (.int .i64 e3)/\W.cell? ⟨g1,o1+i*5+4,none⟩=some (.slice B1 n3 d1)/\W.cell? ⟨g2,o2+i*5,none⟩=some (.int .i64 k4)/\W.cell? ⟨g2,o2+i*5+1,none⟩=some (.string x4)/\W.cell? ⟨g2,o2+i*5+2,none⟩=some (.int .i64 a5)/\W.cell? ⟨g2,o2+i*5+3,none⟩=some (.int .i64 e5)/\W.cell? ⟨g2,o2+i*5+4,none⟩=some (.slice B2 n4 d2)) [] [true,true,true,true,true,true,true,true,true,true,false,true] (by kernel_rfl) (by kernel_rfl) rfl (by kernel_rfl) ?_;iterate 10((first|(refine jJ (by rfl) hS0 ?_)|(refine iX (by rfl) hS0 (by intro w' hSw;obtain⟨hs1,hs2,hs3,hs4,hs5,hs6,hs7,iZ,uy,wD,sW,wC⟩:=hSw;go_simp;rfl) ?_));simp only[Act.put,sA,sZ,sC])
    refine qg (by rfl) (by go_simp) ((HC.out _ hd1).mono ?_);rintro e4 w4 ⟨bb,rfl,hbb,hb4⟩;have lD:Below wr.heap.size wr w4:=hd1.trans (hb4.mono hd1.size);have Kw:=HS.out _ lD;have jc:=kH hbb;refine⟨_,rfl,fun _=>Kw,?_⟩;simp only[Act.put,sA,sZ,sC];first|(refine jJ (by rfl) Kw ?_)|(refine iX (by rfl) Kw (by intro w' hSw;obtain⟨hs1,hs2,hs3,hs4,hs5,hs6,hs7,iZ,uy,wD,sW,wC⟩:=hSw;go_simp;rfl) ?_)
    simp only[Act.put,sA,sZ,sC];refine mQ ?_;have tY:=kH (HB.out.trans (lD.mono HB.out.size));clear hb4 lD hS0 Kw hd1 hbb a4 b4
    cases bb with
    | false=>
     have HBF:Hid (Gc (fun b=>b=true->iY (.node k1 x1 a1 e1 pq)=iY (.node k1 x1 a2 e2 yc)) w (.returned (.bool false)) w4):=kH ⟨_,rfl,fun h=>(by cases h),HB2.out.trans (tY.out.mono (by have:=su.out;omega))⟩;go_wp2_with fail
     go_ret
     exact HBF.out
    | true=>
     have HT2:Hid (nA (pq.take (i+1))=nA (yc.take (i+1))):=kH (by rw[Gl HU.out.1,Gl HU.out.2,HT.out,jc.out rfl]);clear jc;go_wp2_with fail
     go_roundg (gk - 1)
     case measure=>have:=HI.out;omega
     case rel=>exact⟨i+1,by have:=HI.out;omega,by simp,tY.out,HT2.out⟩
   ·have hie:i=n1:=by omega
    subst hie;have HBE:=kH (HB2.out.trans (HB.out.mono (by have:=su.out;omega)));have Ls:Hid (Gc (fun b=>b=true->iY (.node k1 x1 a1 e1 pq)=iY (.node k1 x1 a2 e2 yc)) w (.returned (.bool true)) wr):=kH ⟨_,rfl,fun _=>HE.out (by rw[Ny.out,Bd.out]) HT.out,HBE.out⟩;go_wp2_with fail
    go_ret
    exact Ls.out
theorem XW:∀(m:Nat) (t1 t2:aa) (A1:Option Addr) (c1:Nat) (A2:Option Addr) (c2:Nat) (w:World),ah t1<=m->m<=1000000->t1=t2->aD w w.heap.size A1 0 t1.kids->aD w w.heap.size A2 0 t2.kids ->
 Calls Tryz.prog 31 #[aX t1 A1 c1,aX t2 A2 c2] w (Gc (fun b=>b=true) w):=by
 intro m
 induction m with
 | zero=>
  intro t1 t2 A1 c1 A2 c2 w h;have:=oL t1;omega
 | succ m ih=>
  intro t1 t2 A1 c1 A2 c2 w hm hbig heq hk1 hk2;obtain⟨k1,x1,a1,e1,pq⟩:=t1;obtain⟨k2,x2,a2,e2,yc⟩:=t2;have hcn:ag pq<=m:=by rw[ah]at hm;omega
  have hkl:=kC pq;obtain⟨n1,hn1⟩:∃q,pq.length=q:=⟨_,rfl⟩
  obtain⟨n2,hn2⟩:∃q,yc.length=q:=⟨_,rfl⟩
  have hv1:aX (.node k1 x1 a1 e1 pq) A1 c1= .agg #[.int .i64 k1,.string x1,.int .i64 a1,.int .i64 e1,.slice A1 n1 c1]:=by rw[<- hn1];rfl
  have hv2:aX (.node k2 x2 a2 e2 yc) A2 c2= .agg #[.int .i64 k2,.string x2,.int .i64 a2,.int .i64 e2,.slice A2 n2 c2]:=by rw[<- hn2];rfl
  rw[hv1,hv2];have hN:n1<=1000000:=by omega
  have Nz:Hid (aD w w.heap.size A1 0 pq):=kH hk1;have Ap:Hid (aD w w.heap.size A2 0 yc):=kH hk2;have eH:=kH ih;have HM:Hid (ag pq<=m/\m<=1000000):=kH ⟨hcn,by omega⟩;have Ny:=kH hn1;have Bd:=kH hn2;cases heq
  have hee:n1=n2:=hn1.symm.trans hn2;subst hee;clear hk1 hk2 ih hcn hm hn1 hn2 hv1 hv2 hkl hbig;go_enter Tryz.func31,Tryz.ntmps31
  go_wp2_with fail
  obtain⟨W2,hW2⟩:∃W,(w.alloc (.cells #[.int .i64 k1,.string x1,.int .i64 a1,.int .i64 e1,.slice A1 n1 c1] 24)).alloc (.cells #[.int .i64 k1,.string x1,.int .i64 a1,.int .i64 e1,.slice A2 n1 c2] 24)=W:=⟨_,rfl⟩
  have hb2:Below w.heap.size w W2:=by rw[<- hW2];exact((Below.refl _ w).alloc (aaD _) _).alloc (by simp) _
  have hT1:ai W2 w.heap.size 24 #[.int .i64 k1,.string x1,.int .i64 a1,.int .i64 e1,.slice A1 n1 c1]:=by rw[<- hW2];exact(ai.new w _ _).alloc _
  have gX:ai W2 (w.heap.size+1) 24 #[.int .i64 k1,.string x1,.int .i64 a1,.int .i64 e1,.slice A2 n1 c2]:=by
   rw[<- hW2];have:=ai.new (w.alloc (.cells #[.int .i64 k1,.string x1,.int .i64 a1,.int .i64 e1,.slice A1 n1 c1] 24)) 24 #[.int .i64 k1,.string x1,.int .i64 a1,.int .i64 e1,.slice A2 n1 c2];simpa using this
  have HB2:=kH hb2;have HT1:=kH hT1;have HT2:=kH gX;have HKA:=kH (aD.below hb2 (aaD _) _ _ _ Nz.out);have HKB:=kH (aD.below hb2 (aaD _) _ _ _ Ap.out);have su:Hid (w.heap.size+1<W2.heap.size):=kH gX.lt;clear hb2 hT1 gX;rw[hW2];clear hW2;go_loopg [5] n1 (fun gk s wr=> ∃i:Nat,i+gk=n1/\s= .int .i64 (i:Int)/\Below W2.heap.size W2 wr)
  case atStart=>exact⟨0,by omega,rfl,Below.refl _ _⟩
  case round=>
   obtain⟨i,hi,rfl,hB⟩:=hrel;have QE:=HT1.out.below hB HT1.out.lt;have hNb:=HT2.out.below hB HT2.out.lt;have a4:wr.cell? ⟨w.heap.size,4,none⟩=some (.slice A1 n1 c1):=QE.cell 4;have b4:wr.cell? ⟨w.heap.size+1,4,none⟩=some (.slice A2 n1 c2):=hNb.cell 4;have la:=QE.lt;have lb:=hNb.lt;have HB:=kH hB;have HI:=kH hi;have hi':i<=n1:=by omega
   clear hB hi QE hNb;by_cases hlt:i<n1
   ·have hlt':(i:Int)<(n1:Int):=by omega
    obtain⟨u1,hu1⟩:∃u,pq[i]? =some u:=⟨_,aaH (by rw[Ny.out];exact hlt)⟩
    obtain⟨u2,hu2⟩:∃u,pq[i]? =some u:=⟨_,aaH (by rw[Bd.out];exact hlt)⟩
    obtain⟨v1,⟨g1,o1,hA1,hg1,hc1⟩,hT1⟩:=HKA.out.get i u1 hu1;obtain⟨v2,⟨g2,o2,hA2,hg2,hc2⟩,gX⟩:=HKB.out.get i u2 hu2;obtain⟨B1,d1,hw1,hq1⟩:=hT1.five;obtain⟨B2,d2,hw2,hq2⟩:=gX.five;subst hA1 hA2 hw1 hw2;have hbw:Below w.heap.size W2 wr:=HB.out.mono (by have:=su.out;omega);have hg1':g1<W2.heap.size:=by have:=su.out;omega
    have Qe:g2<W2.heap.size:=by have:=su.out;omega
    have hcell:∀W,Below wr.heap.size wr W->W.cell? ⟨w.heap.size,4,none⟩=some (.slice (some ⟨g1,o1,none⟩) n1 c1)/\W.cell? ⟨w.heap.size+1,4,none⟩=some (.slice (some ⟨g2,o2,none⟩) n1 c2)/\W.cell? ⟨g1,o1+i*5,none⟩=some (.int .i64 u1.kind)/\W.cell? ⟨g1,o1+i*5+1,none⟩=some (.string u1.text)/\W.cell? ⟨g1,o1+i*5+2,none⟩=some (.int .i64 u1.at_)/\W.cell? ⟨g1,o1+i*5+3,none⟩=some (.int .i64 u1.end_)/\W.cell? ⟨g1,o1+i*5+4,none⟩=some (.slice B1 u1.kids.length d1)/\W.cell? ⟨g2,o2+i*5,none⟩=some (.int .i64 u2.kind)/\W.cell? ⟨g2,o2+i*5+1,none⟩=some (.string u2.text)/\W.cell? ⟨g2,o2+i*5+2,none⟩=some (.int .i64 u2.at_)/\W.cell? ⟨g2,o2+i*5+3,none⟩=some (.int .i64 u2.end_)/\W.cell? ⟨g2,o2+i*5+4,none⟩=some (.slice B2 u2.kids.length d2):=fun W hb=>by
     have hz:=HB.out.size;have e1:=fun j v (hj:_=some v)=>(hb.cell (p:=⟨g1,_,none⟩) (Nat.lt_of_lt_of_le hg1' hz)).trans ((HB.out.cell (p:=⟨g1,_,none⟩) hg1').trans (hc1 j v hj))
     have e2:=fun j v (hj:_=some v)=>(hb.cell (p:=⟨g2,_,none⟩) (Nat.lt_of_lt_of_le Qe hz)).trans ((HB.out.cell (p:=⟨g2,_,none⟩) Qe).trans (hc2 j v hj))
     exact⟨(hb.cell (p:=⟨w.heap.size,_,none⟩) la).trans a4,(hb.cell (p:=⟨w.heap.size+1,_,none⟩) lb).trans b4,by simpa using e1 0 _ rfl,by simpa using e1 1 _ rfl,by simpa using e1 2 _ rfl,by simpa using e1 3 _ rfl,by simpa using e1 4 _ rfl,by simpa using e2 0 _ rfl,by simpa using e2 1 _ rfl,by simpa using e2 2 _ rfl,by simpa using e2 3 _ rfl,by simpa using e2 4 _ rfl⟩
    have htk:=gU pq i u1 hu1;have hle:=jk pq (i+1);have hcall:=fun W (hb:Below wr.heap.size wr W)=>eH.out u1 u2 B1 d1 B2 d2 W (by have:=HM.out;omega) HM.out.2 (Option.some.inj (hu1.symm.trans hu2)) (aD.mono (B:=w.heap.size) (by have:=su.out;have:=HB.out.size;have:=hb.size;omega) _ _ _ (aD.below (HB.out.trans (hb.mono HB.out.size)) (by have:=su.out;omega) _ _ _ hq1)) (aD.mono (B:=w.heap.size) (by have:=su.out;have:=HB.out.size;have:=hb.size;omega) _ _ _ (aD.below (HB.out.trans (hb.mono HB.out.size)) (by have:=su.out;omega) _ _ _ hq2))
    unfold aX at hcall;have HC:=kH hcall;have HS:=kH hcell;have HU:Hid (pq[i]? =some u1/\pq[i]? =some u2):=kH ⟨hu1,hu2⟩;have hwr:IntKind.i64.wrap ((i:Int)+1)=(i:Int)+1:=IntWalk.i64_in _ (by omega);obtain⟨n3,zQ⟩:∃q,u1.kids.length=q:=⟨_,rfl⟩
    obtain⟨k3,hk3⟩:∃q,u1.kind=q:=⟨_,rfl⟩
    obtain⟨x3,hx3⟩:∃q,u1.text=q:=⟨_,rfl⟩
    obtain⟨a3,XB⟩:∃q,u1.at_=q:=⟨_,rfl⟩
    obtain⟨e3,Xv⟩:∃q,u1.end_=q:=⟨_,rfl⟩
    obtain⟨n4,Kj⟩:∃q,u2.kids.length=q:=⟨_,rfl⟩
    obtain⟨k4,hk4⟩:∃q,u2.kind=q:=⟨_,rfl⟩
    obtain⟨x4,hx4⟩:∃q,u2.text=q:=⟨_,rfl⟩
    obtain⟨a5,XA⟩:∃q,u2.at_=q:=⟨_,rfl⟩
    obtain⟨e5,Xu⟩:∃q,u2.end_=q:=⟨_,rfl⟩
    rw[zQ,hk3,hx3,XB,Xv,Kj,hk4,hx4,XA,Xu]at HC HS;clear hc1 hc2 hT1 gX hq1 hq2 htk hle hcall hu1 hu2 zQ hk3 hx3 XB Xv Kj hk4 hx4 XA Xu hcell hbw a4 b4;have hd1:Below wr.heap.size wr wr.drew:=(Below.refl _ _).drew;have hS0:=HS.out _ hd1;have hS1:=HS.out _ (Below.refl _ wr);obtain⟨a4,b4,-⟩:=hS1;go_wp2_with fail
    refine iI (fun W=>W.cell? ⟨w.heap.size,4,none⟩=some (.slice (some ⟨g1,o1,none⟩) n1 c1)/\W.cell? ⟨w.heap.size+1,4,none⟩=some (.slice (some ⟨g2,o2,none⟩) n1 c2)/\W.cell? ⟨g1,o1+i*5,none⟩=some (.int .i64 k3)/\W.cell? ⟨g1,o1+i*5+1,none⟩=some (.string x3)/\W.cell? ⟨g1,o1+i*5+2,none⟩=some (.int .i64 a3)/\W.cell? ⟨g1,o1+i*5+3,none⟩=some (.int .i64 e3)/\W.cell? ⟨g1,o1+i*5+4,none⟩=some (.slice B1 n3 d1)/\W.cell? ⟨g2,o2+i*5,none⟩=some (.int .i64 k4)/\W.cell? ⟨g2,o2+i*5+1,none⟩=some (.string x4)/\W.cell? ⟨g2,o2+i*5+2,none⟩=some (.int .i64 a5)/\W.cell? ⟨g2,o2+i*5+3,none⟩=some (.int .i64 e5)/\W.cell? ⟨g2,o2+i*5+4,none⟩=some (.slice B2 n4 d2)) [] [true,true,true,true,true,true,true,true,true,true,false,true] (by kernel_rfl) (by kernel_rfl) rfl (by kernel_rfl) ?_;iterate 10((first|(refine jJ (by rfl) hS0 ?_)|(refine iX (by rfl) hS0 (by intro w' hSw;obtain⟨hs1,hs2,hs3,hs4,hs5,hs6,hs7,iZ,uy,wD,sW,wC⟩:=hSw;go_simp;rfl) ?_));simp only[Act.put,sA,sZ,sC])
    refine qg (by rfl) (by go_simp) ((HC.out _ hd1).mono ?_);rintro e4 w4 ⟨bb,rfl,hbb,hb4⟩;have lD:Below wr.heap.size wr w4:=hd1.trans (hb4.mono hd1.size);have Kw:=HS.out _ lD;have jc:=kH hbb;refine⟨_,rfl,fun _=>Kw,?_⟩;simp only[Act.put,sA,sZ,sC];first|(refine jJ (by rfl) Kw ?_)|(refine iX (by rfl) Kw (by intro w' hSw;obtain⟨hs1,hs2,hs3,hs4,hs5,hs6,hs7,iZ,uy,wD,sW,wC⟩:=hSw;go_simp;rfl) ?_)
    simp only[Act.put,sA,sZ,sC];refine mQ ?_;have tY:=kH (HB.out.trans (lD.mono HB.out.size));clear hb4 lD hS0 Kw hd1 hbb a4 b4;have hbt:=jc.out;subst hbt;go_wp2_with fail
    go_roundg (gk - 1)
    case measure=>have:=HI.out;omega
    case rel=>exact⟨i+1,by have:=HI.out;omega,by simp,tY.out⟩
   ·have hie:i=n1:=by omega
    subst hie;have HBE:=kH (HB2.out.trans (HB.out.mono (by have:=su.out;omega)));have Ls:Hid (Gc (fun b=>b=true) w (.returned (.bool true)) wr):=kH ⟨_,rfl,rfl,HBE.out⟩;go_wp2_with fail
    go_ret
    exact Ls.out
end Go.Proofs.YtoepemlnlpamlaaGreat
namespace Go.Proofs.YtoepemlnlpamlaaGreat
theorem uf{t:aa}(h:fJ t=true)(hk:t.kind=3\/t.kind=4\/t.kind=5\/t.kind=7\/t.kind=8\/t.kind=12\/t.kind=16\/t.kind=20):cZ t.text=true:=by
 obtain⟨sh,hs,hf⟩:=iL h;obtain⟨ht,-,-⟩:=ko hf;rcases hk with hk|hk|hk|hk|hk|hk|hk|hk
 all_goals
  rw[hk]at hs;have he:some _=some sh:=hs;cases he
  exact ht
def rX(r:RS):Prop:=∀d∈r.ds,cZ d.name=true
theorem rX.decl{r:RS}(h:rX r){c:Int}{n:Nat}{t:aa}(ht:cZ t.text=true):rX (iR r c n t):=by
 intro d hd;unfold iR at hd;rcases List.mem_append.1 hd with hd|hd
 ·exact h d hd
 ·rw[List.mem_singleton]at hd
  subst hd;exact ht
theorem rX.declare{r:RS}(h:rX r){c:Int}{n:Nat}{t:aa}(ht:cZ t.text=true)(a:Bool):rX (aQ r c n t a):=by
 cases a
 ·exact h.decl ht
 ·exact h
theorem rX.var{G:aW}{r:RS}(h:rX r){c:Int}{n:Nat}{t:aa}{s:aK}(ht:cZ t.text=true):rX (aA G r c n t s).1:=by
 unfold aA;split
 ·exact h
 ·exact h.decl ht
theorem rX.use{G:aW}{s:aK}{r u:RS}(h:rX u)(t:aa):rX (gH G s r u t):=by
 have hu:∀q,rX (fC u r.next t q):=fun q=>by cases q<;>exact h
 unfold gH;split
 ·exact hu _
 split
 ·exact hu _
 split
 ·exact hu _
 split
 ·exact hu _
 split
 ·exact hu _
 ·exact h
mutual
theorem Y6(G:aW):∀(t:aa) (i:Bool) (s:aK) (r:RS),gJ t=true->rX r->rX (aF G i t s r).1
 | .node k x a e kids,i,s,r,hsh,h=>by
  have hs0:=hsh;rw[jA,aaF]at hsh;obtain⟨hN,hks⟩:=hsh;have hent:∀i v,rX (aC r i v):=fun i v=>h
  rw[bY];split
  ·rename_i hk
   exact lM G kids i 0 kids.length s _ hks ((hent _ _).declare (uf hN (.inl hk)) _)
  split
  ·rename_i hk
   exact lM G kids i 0 kids.length s _ hks ((hent _ _).declare (uf hN (.inr (.inl hk))) _)
  split
  ·rename_i hk
   exact lM G kids true 2 1 _ _ hks (lM G kids false 0 2 _ _ hks ((hent _ _).declare (uf hN (.inr (.inr (.inl hk)))) _))
  split
  ·rename_i hk
   exact lM G kids i 0 kids.length _ _ hks ((hent _ _).var (uf hN (.inr (.inr (.inr (hk.elim .inl (fun h=>.inr (.inl h))))))))
  split
  ·exact lM G kids i 0 kids.length _ _ hks (hent _ _)
  split
  ·rename_i hk
   exact lM G kids i 0 2 _ _ hks ((hent _ _).var (uf hN (.inr (.inr (.inr (.inr (.inr (.inl hk))))))))
  split
  ·rename_i hk
   exact lM G kids i 2 1 _ _ hks (lM G kids i 0 2 _ _ hks ((hent _ _).var (uf hN (.inr (.inr (.inr (.inr (.inr (.inr (.inl hk))))))))))
  ·exact lM G kids i 0 kids.length _ _ hks ((hent _ _).use _)
theorem lM(G:aW):∀(ts:List aa) (i:Bool) (f n:Nat) (s:aK) (r:RS),(dh ts).all fJ=true->rX r->rX (ae G i ts f n s r).1
 | [],_,_,_,_,r,_,h=>by rw[ae];exact h
 | t::ts,i,f+1,n,s,r,hs,h=>by
  rw[dh,List.all_append,aaF]at hs;rw[ae];exact lM G ts i f n s r hs.2 h
 | t::ts,i,0,0,s,r,_,h=>by rw[ae];exact h
 | t::ts,i,0,n+1,s,r,hs,h=>by
  rw[dh,List.all_append,aaF]at hs;rw[ae];exact lM G ts i 0 n _ _ hs.2 (Y6 G t i s r hs.1 h)
end
theorem DC(sh:vN):∀(us ts:List aa) (i:Nat),us.map aa.kind=ts.map aa.kind->fA sh i us=fA sh i ts
 | [],[],_,_=>rfl
 | [],t::ts,_,h=>by simp at h
 | u::us,[],_,h=>by simp at h
 | u::us,t::ts,i,h=>by
  simp only[List.map_cons,List.cons.injEq]at h;rw[fA,fA,DC sh us ts (i+1) h.2]
  have:yh sh i u=yh sh i t:=by
   unfold yh;rw[h.1]
  rw[this]
section
variable {nm:ByteArray}{a' e':Int}
end
open Go.RowKit
theorem YL{α:Type}{l:List α}{i:Nat}{x:α}(h:l[i]? =some x):l.take (i+1)=l.take i++[x]:=by
 rw[List.take_add_one,h];rfl
theorem bL.tree{w:World}{lo:Nat}{A:Option Addr}{c:Nat}{t:aa}(h:bL w lo (.slice A t.kids.length c) t.kids.length t.kids):aB w (fun g=>lo<=g) t [.int .i64 t.kind,.string t.text,.int .i64 t.at_,.int .i64 t.end_,.slice A t.kids.length c]:=by
 cases t
 exact h.node _ _ _ _
theorem aL.Oz{w:World}{base:Nat}{e:TypeId}{size g off c n:Nat}{xs:List Value}(h:aL w base e size (.slice (some ⟨g,off,none⟩) n c) n xs)(q:Nat)(hq:q<n*size)(u:Value):
 aL (w.setCell ⟨g,off+q,none⟩ u) base e size (.slice (some ⟨g,off,none⟩) n c) n (xs.set q u):=by
 refine⟨by simpa using h.1,?_⟩;rcases h.2 with⟨h1,_⟩| ⟨g1,EB,Jd,BC,hv,hb,hg,hn,hm,hs,ht⟩
 ·cases h1
 ·simp only[Value.slice.injEq,aaI,Addr.mk.injEq]at hv
  obtain⟨⟨rfl,rfl,_⟩,_,rfl⟩:=hv;have hns:n*size<=c*size:=Nat.mul_le_mul_right _ hn;refine .inr ⟨g,off,c,BC.setIfInBounds (off+q) u,rfl,hb,by simp[World.setCell,Array.getElem?_modify,hg],hn,hm,by simpa using hs,?_⟩;rw[<- ht,Array.toList_setIfInBounds];apply List.ext_getElem?
  intro j;simp only[List.getElem?_take,List.getElem?_drop,List.getElem?_set,List.length_take,List.length_drop];by_cases hj:j<n*size
  ·rw[if_pos hj,if_pos hj]
   by_cases hij:q=j
   ·subst hij
    have:off+q<BC.size:=by omega
    simp[this];omega
   ·simp[hij]
  ·rw[if_neg hj,if_neg hj]
   have:q≠j:=by omega
   simp[this]
def IC(w:World)(g off a:Nat)(v0 v1 v2 v3 v4:Value):World:=((((w.setCell ⟨g,off+a*5,none⟩ v0).setCell ⟨g,off+a*5+1,none⟩ v1).setCell ⟨g,off+a*5+2,none⟩ v2).setCell ⟨g,off+a*5+3,none⟩ v3).setCell ⟨g,off+a*5+4,none⟩ v4
def LP(xs:List Value)(a:Nat)(v0 v1 v2 v3 v4:Value):List Value:=((((xs.set (a*5) v0).set (a*5+1) v1).set (a*5+2) v2).set (a*5+3) v3).set (a*5+4) v4
theorem putL_at(xs:List Value)(a:Nat)(v0 v1 v2 v3 v4:Value)(h:a*5+4<xs.length)(j q:Nat)(hq:q<5):(LP xs a v0 v1 v2 v3 v4)[j*5+q]? =if j=a then [v0,v1,v2,v3,v4][q]? else xs[j*5+q]? :=by
 unfold LP;simp only[List.getElem?_set,List.length_set];by_cases hj:j=a
 ·subst hj
  rw[if_pos rfl]
  match q,hq with
  | 0,_=>
   rw[if_neg (by omega),if_neg (by omega),if_neg (by omega),if_neg (by omega),if_pos (by omega),if_pos (by omega)];rfl
  | 1,_=>
   rw[if_neg (by omega),if_neg (by omega),if_neg (by omega),if_pos (by omega),if_pos (by omega)];rfl
  | 2,_=>
   rw[if_neg (by omega),if_neg (by omega),if_pos (by omega),if_pos (by omega)];rfl
  | 3,_=>
   rw[if_neg (by omega),if_pos (by omega),if_pos (by omega)];rfl
  | 4,_=>
   rw[if_pos (by omega),if_pos (by omega)];rfl
 ·rw[if_neg hj,if_neg (by omega),if_neg (by omega),if_neg (by omega),if_neg (by omega),if_neg (by omega)]
theorem aL.IC{w:World}{base:Nat}{e:TypeId}{g off c n:Nat}{xs:List Value}(h:aL w base e 5 (.slice (some ⟨g,off,none⟩) n c) n xs)(a:Nat)(ha:a<n)(v0 v1 v2 v3 v4:Value):
 aL (IC w g off a v0 v1 v2 v3 v4) base e 5 (.slice (some ⟨g,off,none⟩) n c) n (LP xs a v0 v1 v2 v3 v4):=
 ((((h.Oz (a*5) (by omega) v0).Oz (a*5+1) (by omega) v1).Oz (a*5+2) (by omega) v2).Oz (a*5+3) (by omega) v3).Oz (a*5+4) (by omega) v4
theorem UM{w:World}{g off a:Nat}{v0 v1 v2 v3 v4:Value}:az (fun x=>x=g) w (IC w g off a v0 v1 v2 v3 v4):=by
 unfold Go.Proofs.YtoepemlnlpamlaaGreat.IC;exact((((az.setCell (S:=fun x=>x=g) (az.refl _ w) (p:=⟨g,off+a*5,none⟩) (.inl rfl) _).setCell (p:=⟨g,off+a*5+1,none⟩) (.inl rfl) _).setCell (p:=⟨g,off+a*5+2,none⟩) (.inl rfl) _).setCell (p:=⟨g,off+a*5+3,none⟩) (.inl rfl) _).setCell (p:=⟨g,off+a*5+4,none⟩) (.inl rfl) _
theorem aD.flat{w:World}{B:Nat}{A:Option Addr}:∀{ts:List aa}{i:Nat},aD w B A i ts->ts≠[]->∃b off vals,A=some ⟨b,off,none⟩/\b<B/\gB w B ts vals/\∀j u,(List.flatten vals)[j]? =some u->w.cell? ⟨b,off+i*5+j,none⟩=some u
 | [],_,_,h=>absurd rfl h
 | t::ts,i,⟨⟨b,off,cs,hA,hb,hc,hT⟩,hr⟩,_=>by
  obtain⟨A',c',hcs,-⟩:=hT.five;have hl:cs.length=5:=by rw[hcs];rfl
  by_cases hn:ts=[]
  ·subst hn
   refine⟨b,off,[cs],hA,hb,⟨cs,[],rfl,hT,rfl⟩,fun j u hj=>?_⟩;simp only[List.flatten_cons,List.flatten_nil,List.append_nil]at hj;exact hc j u hj
  ·obtain⟨b',off',vals,hA',-,hv,hf⟩:=aD.flat hr hn
   rw[hA]at hA';simp only[aaI,Addr.mk.injEq,and_true]at hA';obtain⟨rfl,rfl⟩:=hA';refine⟨b,off,cs::vals,hA,hb,⟨cs,vals,rfl,hT,hv⟩,fun j u hj=>?_⟩;rw[List.flatten_cons]at hj;by_cases hlt:j<5
   ·rw[List.getElem?_append_left (by omega)]at hj
    exact hc j u hj
   ·rw[aaN (by omega),hl]at hj
    have:=hf _ _ hj;rw[show off+(i+1)*5+(j - 5)=off+i*5+j by omega]at this;exact this
theorem O8{vals:List (List Value)}(h5:∀v∈vals,v.length=5){i:Nat}(hi:i<vals.length)(v0 v1 v2 v3 v4:Value):LP (List.flatten vals) i v0 v1 v2 v3 v4=List.flatten (vals.set i [v0,v1,v2,v3,v4]):=by
 have hlen:∀(l:List (List Value)),(∀v∈l,v.length=5)->(List.flatten l).length=l.length*5:=by
  intro l
  induction l with
  | nil=>intro _;rfl
  | cons y l ih=>
   intro h;rw[List.flatten_cons,aaO,h y (by simp),ih (fun v hv=>h v (by simp[hv])),aaQ];omega
 have h5':∀v∈vals.set i [v0,v1,v2,v3,v4],v.length=5:=fun v hv=>by
  rcases List.mem_or_eq_of_mem_set hv with h|h
  ·exact h5 v h
  ·rw[h];rfl
 have hl1:=hlen vals h5;have hl2:=hlen _ h5';rw[List.length_set]at hl2
 have hl3:(LP (List.flatten vals) i v0 v1 v2 v3 v4).length=vals.length*5:=by
  unfold LP;simp only[List.length_set];exact hl1
 refine List.ext_getElem? fun j=>?_
 by_cases hj:j<vals.length*5
 ·obtain⟨a,q,hq,rfl⟩:∃a q,q<5/\j=a*5+q:=⟨j / 5,j % 5,by omega,by omega⟩
  have ha:a<vals.length:=by omega
  rw[putL_at _ _ _ _ _ _ _ (by omega) a q hq];obtain⟨u,hu⟩:∃u,(vals.set i [v0,v1,v2,v3,v4])[a]? =some u:=⟨_,aaH (by rw[List.length_set];exact ha)⟩
  have AO:u.length=5:=h5' u (aaP hu);obtain⟨x,hx⟩:∃x,u[q]? =some x:=⟨_,aaH (by omega)⟩
  rw[uP _ h5' a q u x hu hx];rw[List.getElem?_set]at hu;by_cases hai:i=a
  ·rw[if_pos hai,if_pos (by omega)]at hu
   rw[if_pos hai.symm];rw[<- hx];cases hu
   rfl
  ·rw[if_neg hai]at hu
   rw[if_neg (fun h=>hai h.symm)];exact uP vals h5 a q u x hu hx
 ·rw[List.getElem?_eq_none (by omega),List.getElem?_eq_none (by omega)]
theorem J6{w:World}{g off i:Nat}{v:List Value}(h:∀j u,v[j]? =some u->w.cell? ⟨g,off+i*5+j,none⟩=some u){a b c d e:Value}(hv:v=[a,b,c,d,e]):w.cell? ⟨g,off+i*5,none⟩=some a/\w.cell? ⟨g,off+i*5+1,none⟩=some b/\w.cell? ⟨g,off+i*5+2,none⟩=some c/\w.cell? ⟨g,off+i*5+3,none⟩=some d/\w.cell? ⟨g,off+i*5+4,none⟩=some e:=by
 subst hv;exact⟨by simpa using h 0 _ rfl,h 1 _ rfl,h 2 _ rfl,h 3 _ rfl,h 4 _ rfl⟩
theorem aL.kid{w:World}{base g off n c i:Nat}{vals:List (List Value)}(h:aL w base 24 5 (.slice (some ⟨g,off,none⟩) n c) n (List.flatten vals))(h5:∀v∈vals,v.length=5){v:List Value}(hv:vals[i]? =some v)(hi:i<n):∀j u,v[j]? =some u->w.cell? ⟨g,off+i*5+j,none⟩=some u:=by
 intro j u hj;obtain⟨g1,EB,cap,hA,-,-,-,-,hc⟩:=h.form (by omega);cases hA
 rw[Nat.add_assoc];exact hc _ _ (uP vals h5 i j v u hv hj)
theorem wQ{w:World}{base g off n c:Nat}{e:TypeId}{size:Nat}{xs:List Value}(h:aL w base e size (.slice (some ⟨g,off,none⟩) n c) n xs)(o:Nat):w.frozen? ⟨g,o,none⟩=false:=by
 obtain⟨cur,hc⟩:=h.obj g rfl;simp only[World.frozen?,hc];rfl
end Go.Proofs.YtoepemlnlpamlaaGreat
