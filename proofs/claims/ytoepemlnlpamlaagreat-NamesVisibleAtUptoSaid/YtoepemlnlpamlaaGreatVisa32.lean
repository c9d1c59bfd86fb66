/- The law NamesVisibleAt holds where what it reads is of bulk at most 1048576: it returns true, and its arguments read as before. Part 32: Res3 Visib HeldQ. -/
import Derived.Test.YtoepemlnlpamlaaGreatVisa13
import Derived.Test.YtoepemlnlpamlaaGreatVisa15
import Derived.Test.YtoepemlnlpamlaaGreatVisa21
import Derived.Test.YtoepemlnlpamlaaGreatVisa31
set_option maxRecDepth 100000
set_option maxHeartbeats 4000000
namespace Go.Proofs.YtoepemlnlpamlaaGreat
open Go.RowKit
def ResOut(t:ae)(w:World)(e:Ending)(w':World):Prop:=
 (jC t=false/\e= .returned (.tuple #[.agg #[.slice none 0 0,.slice none 0 0],.slice none 0 0,.int .i64 1])/\Below w.heap.size w w') \/
 (jC t=true/\∃E V A n c,e= .returned (.tuple #[.agg #[.slice V.dA (dZ t).ds.length V.dc,.slice E.uA (dZ t).uses.length E.uc],.slice A n c,.int .i64 0])/\w.heap.size<=E.base/\aX E (dO t) (dZ t) V w'/\n=(dZ t).aY.length/\aK w' w.heap.size 78 5 (.slice A n c) n ((dZ t).aY.flatMap fun p=>bO p.2)/\Below w.heap.size w w')
theorem aX.farBlk{E:RC}{G:bC}{r:RS}{V:RV}{w w':World}{g:Nat}{t:TypeId}{O:Array Value}(h:aX E G r V w)(F:aj w g t O)(C:t≠75)(N:t≠3)(R:t≠49)(U:t≠80)(H:aF (fun x=>x=g) w w'):aX E G r V w':=by
 have I:∀{K:Type} [DecidableEq K] {KK:oW K}{q:Nat}{m:List (K×Value)},bA KK w q m->bA KK w' q m:=fun D=>D.since H (fun C=>D.rJ F C)
 have A:∀{e size v n xs},aK w E.base e size v n xs->t≠e->aK w' E.base e size v n xs:=fun D M=>D.since H (fun q B C=>D.cB F M.symm (by rw[B,C]))
 refine⟨h.blk.since H (fun e=>?_),I h.gl,I h.fl,I h.kn,I h.vi,fG.of_block h.aR fun q cur B _=>H.block q (aae.1 B).1 fun e=>?_,A h.ds R,A h.us N,A h.ps U,h.low,h.apart⟩
 ·have J:w.heap[E.rp]? =some (Obj.cells _ _ (0,0)):=h.blk
  have L:w.heap[g]? =some (Obj.cells _ _ (0,0)):=F;rw[e,L]at J;simp only[aag,Obj.cells.injEq]at J;exact C J.2.1
 ·have L:w.heap[g]? =some (Obj.cells _ _ (0,0)):=F
  rw[e,L]at B;simp only[aag,Obj.cells.injEq]at B;exact N B.2.1
theorem news_dg(w:World)(g:Nat)(d:Dg)(B:w.cell? ⟨g,0,none⟩=some (.int .i64 d.code))(C:w.cell? ⟨g,1,none⟩=some (.int .i64 d.at_))(D:w.cell? ⟨g,2,none⟩=some (.int .i64 d.end_))(E:w.cell? ⟨g,3,none⟩=some (.string d.text))(F:w.cell? ⟨g,4,none⟩=some (.slice none 0 0)):
 ∀j v,(bO d)[j]? =some v->w.cell? ((⟨g,0,none⟩:Addr).add j)=some v:=by
 intro j v A
 match j,A with
 | 0,A=>cases A;exact B
 | 1,A=>cases A;simpa [Addr.add] using C
 | 2,A=>cases A;simpa [Addr.add] using D
 | 3,A=>cases A;simpa [Addr.add] using E
 | 4,A=>cases A;simpa [Addr.add] using F
 | j+5,A=>simp[bO]at A
theorem UL(t:ae)(A:Option Addr)(c:Nat)(w:World)(hN:ai t<=1000000)(k:t.kids.length<=c)(hk:aJ w w.heap.size A 0 t.kids):
 Calls Tryz.prog 12 #[aZ t A c] w (ResOut t w):=by
 obtain⟨k0,x0,a0,z0,n0,-,-,-,-,-,jw⟩:=dR t A c;obtain⟨i0,hi0,hz0,hz1,hz2⟩:=info_parts Ee;obtain⟨W1,Y⟩:∃W1,(w.alloc (.cells #[.int .i64 k0,.string x0,.int .i64 a0,.int .i64 z0,.slice A n0 c] 24)).alloc (.cells #[.slice none 0 0,.slice none 0 0] 30)=W1:=⟨_,rfl⟩
 have B:aj W1 w.heap.size 24 #[.int .i64 k0,.string x0,.int .i64 a0,.int .i64 z0,.slice A n0 c]:=by rw[<- Y];exact(aj.new w _ _).alloc _
 have hrb:aj W1 (w.heap.size+1) 30 #[.slice none 0 0,.slice none 0 0]:=by
  rw[<- Y];have:=aj.new (w.alloc (.cells #[.int .i64 k0,.string x0,.int .i64 a0,.int .i64 z0,.slice A n0 c] 24)) 30 #[.slice none 0 0,.slice none 0 0];simpa using this
 have z:Below w.heap.size w W1:=by rw[<- Y];exact(ag w _).trans ((ag _ _).mono (by simp))
 have G:=Po t A c W1 (by omega) (aJ.mono z.size _ _ _ (aJ.below z (aab _) _ _ _ hk));rw[jw]at G⊢;obtain⟨vb,hvb⟩:∃q,jC t=q:=⟨_,rfl⟩
 rw[hvb]at G;have NW:=kH G;have wV:=kH hvb;have lV:=kH B;have dS:=kH hrb;have HB1:=kH z;have FU:=kH jw;have HCAP:=kH k;have HK:=kH hk;have m0:=B.cell 0;have m1:=B.cell 1;have m2:=B.cell 2;have m3:=B.cell 3;have m4:=B.cell 4;have lm:=B.lt;clear G hvb B hrb z jw k hk;go_in
 go_wp2_with fail
 clear Y m0 m1 m2 m3 m4 lm;refine NW.out.mono ?_;rintro e2 w2 ⟨rfl,y⟩;have H:Hid (Below w.heap.size w w2):=kH (HB1.out.trans (y.mono HB1.out.size));have wM:=kH (lV.out.below y lV.out.lt);have f:=kH (dS.out.below y dS.out.lt);clear y
 cases vb with
 | false=>
  have r0:=f.out.cell 0;have r1:=f.out.cell 1;have g0:=f.out.frozen 0;have g1:=f.out.frozen 1;have lr:=f.out.lt;go_wp2_with fail
  try simp only[Exit.inBlock,Exit.then]
  refine bodyPost_ret (v:=.tuple #[.agg #[.slice none 0 0,.slice none 0 0],.slice none 0 0,.int .i64 1]) (by simp[results,Tryz.results12,go_sem,r0,r1]) rfl ?_;exact .inl ⟨wV.out,rfl,(H.out.setCell (p:=⟨w.heap.size+1,0,none⟩) (by show w.heap.size<=w.heap.size+1;omega) _).setCell (p:=⟨w.heap.size+1,1,none⟩) (by show w.heap.size<=w.heap.size+1;omega) _⟩
 | true=>
  have N:=I5 t A c w2 (Ol wV.out) hN HCAP.out (aJ.mono H.out.size _ _ _ (aJ.below H.out (aab _) _ _ _ HK.out));rw[FU.out]at N;have aN:=kH N;have m0:=wM.out.cell 0;have m1:=wM.out.cell 1;have m2:=wM.out.cell 2;have m3:=wM.out.cell 3;have m4:=wM.out.cell 4;have lm:=wM.out.lt;clear N;go_wp2_with fail
  clear m0 m1 m2 m3 m4 lm;refine aN.out.mono ?_;rintro e3 U ⟨E,V,rfl,FI,cZ,hb3⟩;have K:=kH (f.out.below hb3 f.out.lt);have j:Hid (Below w.heap.size w U):=kH (H.out.trans (hb3.mono H.out.size));have HEB:Hid (w.heap.size<=E.base/\w.heap.size+1<U.heap.size):=kH ⟨by rw[FI];exact H.out.size,K.out.lt⟩;obtain⟨R,hR⟩:∃R,dZ t=R:=⟨_,rfl⟩
  rw[hR]at cZ;have X:=kH hR;obtain⟨np,o7⟩:∃q,R.aY.length=q:=⟨_,rfl⟩
  have hnpm:np<=1000000:=by
   rw[<- o7,<- hR];have d:=(Ai (dO t) t false [] ⟨[],List.replicate (ai t) (-1),[],[],0,0⟩).aY;have h2:=Iz (dO t) t false [] ⟨[],List.replicate (ai t) (-1),[],[],0,0⟩;show(aM (dO t) false t [] ⟨[],List.replicate (ai t) (-1),[],[],0,0⟩).1.aY.length<=_;generalize (aM (dO t) false t [] ⟨[],List.replicate (ai t) (-1),[],[],0,0⟩).1=Z at d h2⊢
   have h3:Z.aY.length+0<=0+Z.next:=d;have h4:Z.next<=0+ai t:=h2;omega
  obtain⟨pA,hpA⟩:∃q,V.pA=q:=⟨_,rfl⟩
  have c6:U.cell? ⟨E.rp,6,none⟩=some (.slice pA np V.pc):=by
   have:=cZ.blk.cell 6;rw[<- o7,<- hpA];exact this
  have qN:=cZ.blk.lt;have O:=cZ.ps.rowAt (cells:=iM) (l:=R.aY) rfl rfl (fun c _=>rfl) rfl;rw[hpA]at O;have Lp:=kH O;have HR3:=kH cZ;have mE:=kH o7;clear hR o7 hpA O cZ hb3 FI aN;go_wp2_with fail
  clear c6;go_loopg [6,20] np (fun gk s6 s20 wr=> ∃(i:Nat) (x:Option Addr) (n:Nat),s20= .int .i64 (i:Int)/\s6= .slice x i n/\i+gk=np/\Hid (aK wr U.heap.size 78 5 (.slice x i n) i ((R.aY.take i).flatMap fun p=>bO p.2))/\Hid (Below U.heap.size U wr))
  case atStart=>exact⟨0,none,0,rfl,rfl,by omega,kH (aK.nil _ _ _ _),kH (Below.refl _ _)⟩
  case round=>
   obtain⟨i,x,n,rfl,rfl,hi,HO,u⟩:=hrel;by_cases hlt:i<np
   ·have hlt':(i:Int)<(np:Int):=by omega
    have hw:IntKind.i64.wrap ((i:Int)+1)=(i:Int)+1:=IntWalk.i64_in _ (by omega);obtain⟨p,hp⟩:∃p,R.aY[i]? =some p:=⟨_,aaf (by rw[mE.out];exact hlt)⟩
    obtain⟨b,J,hA,m,C⟩:=(Lp.out.later u.out) i p hp;subst hA;have hbl:b<wr.heap.size:=m;have HPI:Hid ((R.aY.take (i+1)).flatMap (fun p=>bO p.2)=(R.aY.take i).flatMap (fun p=>bO p.2)++bO p.2):=kH (by rw[zh hp];simp);obtain⟨p1,p2,p3,p4,p5⟩:=p;have t0:wr.cell? ⟨b,J+i*6,none⟩=some (.int .i64 p1):=by simpa using C 0 _ rfl
    have t1:wr.cell? ⟨b,J+i*6+1,none⟩=some (.int .i64 p2):=by simpa using C 1 _ rfl
    have t2:wr.cell? ⟨b,J+i*6+2,none⟩=some (.int .i64 p3):=by simpa using C 2 _ rfl
    have t3:wr.cell? ⟨b,J+i*6+3,none⟩=some (.int .i64 p4):=by simpa using C 3 _ rfl
    have t4:wr.cell? ⟨b,J+i*6+4,none⟩=some (.string p5):=by simpa using C 4 _ rfl
    have t5:wr.cell? ⟨b,J+i*6+5,none⟩=some (.slice none 0 0):=by simpa using C 5 _ rfl
    clear C hp m;go_wp2_with (at_builtin;go_must (refine di _ rfl (.tmp 24) (.tmp 27) _ rfl U.heap.size 78 i0 _ 5 64 Tryz.underlying31 hi0 hz0 hz1 hz2 rfl (.slice x i n) i ((R.aY.take i).flatMap fun p=>bO p.2) rfl ((HO.out.alloc _).alloc _) ⟨wr.heap.size+1,0,none⟩ 1 1 (bO ⟨p2,p3,p4,p5⟩) rfl rfl (news_dg _ _ _ (by go_simp) (by go_simp) (by go_simp) (by go_simp) (by go_simp)) (by simp[bO,Value.oneCell']) (by simp only[maxLen];omega) (by omega) (by have:=u.out.size;simp;omega) ?_);intro vn w6 M L hat;obtain⟨A6,c6,nC,-,-⟩:=M.shape;subst nC;have r:=kH M;have qy:=kH L;clear M L hat)
    have Cb:Hid (aK w6 U.heap.size 78 5 (.slice A6 (i+1) c6) (i+1) ((R.aY.take (i+1)).flatMap fun p=>bO p.2)):=kH (by rw[HPI.out];exact r.out);have zH:Hid (Below U.heap.size U w6):=kH ((u.out.trans (((Below.refl _ wr).alloc (aab _) _ |>.alloc (by simp) _).mono u.out.size)).trans (((aF.refl (fun g=>U.heap.size<=g) _).grown qy.out (fun g hg=>.inl (HO.out.lt g hg).1)).toBelow (by have:=u.out.size;simp;omega) (fun g hg=>hg)));clear r qy;go_roundg (gk - 1)
    case measure=>omega
    case rel=>exact⟨i+1,A6,c6,by simp,rfl,by omega,Cb,zH⟩
   ·have hin:i=np:=by omega
    subst hin;have hge:¬((i:Int)<(i:Int)):=by omega
    have I:=HR3.out.below u.out;have W:=K.out.below u.out K.out.lt;obtain⟨D,hnd⟩:∃q,R.ds.length=q:=⟨_,rfl⟩
    obtain⟨F,hnu⟩:∃q,R.uses.length=q:=⟨_,rfl⟩
    have c3:wr.cell? ⟨E.rp,3,none⟩=some (.slice V.dA D V.dc):=by rw[<- hnd];exact I.blk.cell 3
    have c4:wr.cell? ⟨E.rp,4,none⟩=some (.slice E.uA F E.uc):=by rw[<- hnu];exact I.blk.cell 4
    have lr:=I.blk.lt;have r0:=W.cell 0;have r1:=W.cell 1;have g0:=W.frozen 0;have g1:=W.frozen 1;have lb:=W.lt
    have hne:E.rp≠w.heap.size+1:=fun e=>by
     have d:wr.heap[E.rp]? =some (Obj.cells _ _ (0,0)):=I.blk;have h2:wr.heap[w.heap.size+1]? =some (Obj.cells _ _ (0,0)):=W;rw[e,h2]at d;simp at d
    have hss:aF (fun g=>g=w.heap.size+1) wr ((wr.drew.setCell ⟨w.heap.size+1,0,none⟩ (.slice V.dA D V.dc)).setCell ⟨w.heap.size+1,1,none⟩ (.slice E.uA F E.uc)):=
     aF.setCell (S:=fun g=>g=w.heap.size+1) (aF.setCell (S:=fun g=>g=w.heap.size+1) ((aF.refl _ wr).drew) (p:=⟨w.heap.size+1,0,none⟩) (.inl rfl) _) (p:=⟨w.heap.size+1,1,none⟩) (.inl rfl) _
    have hRz:=I.farBlk W (by decide) (by decide) (by decide) (by decide) hss
    have hOz:aK ((wr.drew.setCell ⟨w.heap.size+1,0,none⟩ (.slice V.dA D V.dc)).setCell ⟨w.heap.size+1,1,none⟩ (.slice E.uA F E.uc)) w.heap.size 78 5 (.slice x i n) i ((dZ t).aY.flatMap fun p=>bO p.2):=by
     have:=(HO.out.mono j.out.size).since hss (fun q hq d=>HO.out.cB W (by decide) (by rw[hq,d]));rw[X.out];rw[List.take_of_length_le (by rw[mE.out];exact aab _)]at this;exact this
    have hBz:Below w.heap.size w ((wr.drew.setCell ⟨w.heap.size+1,0,none⟩ (.slice V.dA D V.dc)).setCell ⟨w.heap.size+1,1,none⟩ (.slice E.uA F E.uc)):=
     ((((j.out.trans (u.out.mono j.out.size))).drew).setCell (p:=⟨w.heap.size+1,0,none⟩) (by show w.heap.size<=w.heap.size+1;omega) _).setCell (p:=⟨w.heap.size+1,1,none⟩) (by show w.heap.size<=w.heap.size+1;omega) _
    have hbz:=(W.drew.gu 0 (.slice V.dA D V.dc)).gu 1 (.slice E.uA F E.uc);have PH:Hid (aj ((wr.drew.setCell ⟨w.heap.size+1,0,none⟩ (.slice V.dA D V.dc)).setCell ⟨w.heap.size+1,1,none⟩ (.slice E.uA F E.uc)) (w.heap.size+1) 30 #[.slice V.dA D V.dc,.slice E.uA F E.uc]):=kH (by simpa using hbz)
    have aO:Hid (ResOut t w (.returned (.tuple #[.agg #[.slice V.dA D V.dc,.slice E.uA F E.uc],.slice x i n,.int .i64 0])) ((wr.drew.setCell ⟨w.heap.size+1,0,none⟩ (.slice V.dA D V.dc)).setCell ⟨w.heap.size+1,1,none⟩ (.slice E.uA F E.uc))):=kH (by
     refine .inr ⟨wV.out,E,V,x,i,n,by rw[X.out,hnd,hnu],HEB.out.1,by rw[X.out];exact hRz,by rw[X.out,mE.out],hOz,hBz⟩)
    clear hRz hOz hBz hbz hss hnd hnu I W;go_wp2_with fail
    refine eQ (fun w'=>w'.cell? ⟨E.rp,3,none⟩=some (.slice V.dA D V.dc)/\w'.cell? ⟨E.rp,4,none⟩=some (.slice E.uA F E.uc)) [] [true,true,true,true,true,true,true,true,true,true,false,false,false] (by kernel_rfl) (by kernel_rfl) rfl (by kernel_rfl) ?_;have hS0:wr.drew.cell? ⟨E.rp,3,none⟩=some (.slice V.dA D V.dc)/\wr.drew.cell? ⟨E.rp,4,none⟩=some (.slice E.uA F E.uc):=⟨c3,c4⟩
    iterate 10(refine ic rfl hS0 (by intro w' hSw;obtain⟨hs1,hs2⟩:=hSw;go_simp;rfl) ?_;simp only[Act.put,sA,sZ,sC])
    refine iU (w':=(wr.drew.setCell ⟨w.heap.size+1,0,none⟩ (.slice V.dA D V.dc)).setCell ⟨w.heap.size+1,1,none⟩ (.slice E.uA F E.uc)) rfl (by go_simp) (fun _=>⟨by go_simp,by go_simp⟩) ?_;simp only[Act.put];iterate 2(refine ib (w':=(wr.drew.setCell ⟨w.heap.size+1,0,none⟩ (.slice V.dA D V.dc)).setCell ⟨w.heap.size+1,1,none⟩ (.slice E.uA F E.uc)) rfl (by go_simp;rfl) (fun _=>⟨by go_simp,by go_simp⟩) ?_;simp only[Act.put,sA,sZ,sC])
    refine jm ?_;clear hS0 r0 r1 g0 g1 c3 c4;generalize (wr.drew.setCell ⟨w.heap.size+1,0,none⟩ (.slice V.dA D V.dc)).setCell ⟨w.heap.size+1,1,none⟩ (.slice E.uA F E.uc)=WZ at aO PH⊢
    have r0:=PH.out.cell 0;have r1:=PH.out.cell 1;go_wp2_with fail
    try simp only[Exit.inBlock,Exit.then]
    refine bodyPost_ret (v:=.tuple #[.agg #[.slice V.dA D V.dc,.slice E.uA F E.uc],.slice x i n,.int .i64 0]) (by simp[results,Tryz.results12,go_sem,r0,r1]) rfl ?_;exact aO.out
theorem Xz{K:Type}[DecidableEq K](x:K×Value)(m:List (K×Value))(k:K):nV (x::m) k=if k=x.1 then some x.2 else nV m k:=by
 unfold nV;rw[mR];by_cases h:k=x.1
 ·rw[if_pos h,if_pos h];rfl
 ·rw[if_neg h,if_neg h]
  have:=EB k m 1 0;rw[Nat.add_zero]at this;rw[this];cases mR k m 0<;>rfl
theorem fG.look{w:World}{base:Nat}{B:Option Nat}(k:Int):∀{l:List (Int×List Int)}{vals:List (Int×Value)},fG w base B l vals ->
 ∃v,(nV vals k).getD (.slice none 0 0)=v/\aK w base 3 1 v ((bE l k).getD []).length (iB ((bE l k).getD []))
 | [],vals,h=>by
  have:vals=[]:=h;subst this;exact⟨_,rfl,aK.nil _ _ _ _⟩
 | x::l,vals,⟨v,vs,h1,h2,h3,h4⟩=>by
  subst h1;rw[Xz,bE];by_cases A:k=x.1
  ·rw[if_pos A,if_pos A]
   exact⟨v,rfl,h2⟩
  ·rw[if_neg A,if_neg A]
   exact fG.look k h4
theorem YP(w:World):(zeroValue 28).run Tryz.prog w= .ok (.slice none 0 0) w:=by go_simp
def eD(t:ae)(k:Int):List Int:=if jC t then(bE (dZ t).aR k).getD [] else []
theorem JE(t:ae)(A:Option Addr)(c:Nat)(num:Int)(w:World)(hN:ai t<=1000000)(H:t.kids.length<=c)(x:aJ w w.heap.size A 0 t.kids):
 Calls Tryz.prog 17 #[aZ t A c,.int .i64 num] w fun e w'=> ∃v,e= .returned v/\aK w' w.heap.size 3 1 v (eD t num).length (iB (eD t num))/\Below w.heap.size w w':=by
 obtain⟨k0,x0,b,z0,n0,-,-,-,-,-,r⟩:=dR t A c;obtain⟨O,I⟩:∃O,w.alloc (.cells #[.int .i64 k0,.string x0,.int .i64 b,.int .i64 z0,.slice A n0 c] 24)=O:=⟨_,rfl⟩
 have B:aj O w.heap.size 24 #[.int .i64 k0,.string x0,.int .i64 b,.int .i64 z0,.slice A n0 c]:=by rw[<- I];exact aj.new w _ _
 have G:Below w.heap.size w O:=by rw[<- I];exact ag w _
 have C:=Po t A c O (by omega) (aJ.mono G.size _ _ _ (aJ.below G (aab _) _ _ _ x));rw[r]at C⊢;obtain⟨vb,K⟩:∃q,jC t=q:=⟨_,rfl⟩
 obtain⟨Z,U⟩:∃Z,eD t num=Z:=⟨_,rfl⟩
 rw[U];unfold eD at U;rw[K]at C U;have NW:=kH C;have d:=kH U;have wV:=kH K;have lV:=kH B;have M:=kH G;have FU:=kH r;have N:=kH H;have HK:=kH x;have m:=B.cell 0;have l:=B.cell 1;have k:=B.cell 2;have j:=B.cell 3;have g:=B.cell 4;have n:=B.lt;clear C K B G r H x U;go_in
 go_wp2_with fail
 clear I m l k j g n;refine NW.out.mono ?_;rintro e2 w2 ⟨rfl,J⟩;have D:Hid (Below w.heap.size w w2):=kH (M.out.trans (J.mono M.out.size));have L:=kH (lV.out.below J lV.out.lt);clear J
 cases vb with
 | false=>
  have Y:Z=[]:=by rw[<- d.out];rfl
  subst Y;go_wp2_with fail
  go_ret
  exact⟨_,rfl,aK.nil _ _ _ _,D.out⟩
 | true=>
  have F:=I5 t A c w2 (Ol wV.out) hN N.out (aJ.mono D.out.size _ _ _ (aJ.below D.out (aab _) _ _ _ HK.out));rw[FU.out]at F;have aN:=kH F;have m:=L.out.cell 0;have l:=L.out.cell 1;have k:=L.out.cell 2;have j:=L.out.cell 3;have g:=L.out.cell 4;have n:=L.out.lt;clear F;go_wp2_with fail
  clear m l k j g n;refine aN.out.mono ?_;rintro e3 z ⟨E,V,rfl,f,R,W⟩;have X:=vW (P:=Tryz.prog) (KK:=kX) (t:=72) (kt:=3) (et:=28) Tryz.underlying72 Tryz.underlying3 YP R.vi num;obtain⟨v,hv,u⟩:=fG.look num R.aR;rw[hv]at X;change (Instr.lookup 72 (.map (some E.vi)) (.int .i64 num) false).run Tryz.prog z=_ at X;have Y:(bE (dZ t).aR num).getD []=Z:=by rw[<- d.out];rfl
  rw[Y]at u;have c5:z.cell? ⟨E.rp,5,none⟩=some (.map (some E.vi)):=R.blk.cell 5;have lr:=R.blk.lt;have HO:Hid (aK z w.heap.size 3 1 v Z.length (iB Z)):=kH (u.mono (by rw[f];exact D.out.size));have y:Hid (Below w.heap.size w z):=kH (D.out.trans (W.mono D.out.size));clear f R W hv u Y aN;go_wp2_with fail
  go_ret
  exact⟨v,rfl,HO.out,y.out⟩
end Go.Proofs.YtoepemlnlpamlaaGreat
namespace Go.Proofs.YtoepemlnlpamlaaGreat
section
variable {P:Program}{ops:Array Oper}{Q:Exit->Act->World->Prop}{md:Region.Mode}{S T:World->Prop}{ex:List Nat}
def F4(P:Program)(md:Region.Mode)(ops:Array Oper)(Q:Exit->Act->World->Prop)(S T:World->Prop)(ex:List Nat):Nat->Array Bool->Act->World->Prop
 | 0,listed,a,w=>Region.ready md ops listed=[]/\Q .normal a w
 | fuel+1,listed,a,w=>
  (Region.ready md ops listed=[]->Q .normal a w) /\
  ∀i∈Region.ready md ops listed,wpOp P ops Q i (fun a' w'=>(T w'/\(i ∉ ex->S w'))/\F4 P md ops Q S T ex fuel (listed.setIfInBounds i true) a' w') a w
theorem LD:∀(fuel:Nat) (A:Array Bool) (a:Act) (w:World),F4 P md ops Q S T ex fuel A a w->wpAny P md ops Q fuel A a w
 | 0,_,_,_,h=>h
 | fuel+1,_,_,_,h=>⟨h.1,fun i D=>wpOp_mono (fun B w' C=>LD fuel _ B w' C.2) (h.2 i D)⟩
theorem F3{U:World->Prop}{i:Nat}{N:Oper}{v:Value}(n:ops[i]? =some N)(J:∀(j:Nat) (o:Oper) O b,ops[j]? =some o->o.op ≠ .select O b)
 (V:∀w,U w->T w/\(i ∉ ex->S w)) (hQ:∀c a w,Q (.panic c) (a.put N.dst v) w->Q (.panic c) a w):
 ∀(fuel:Nat) (A:Array Bool) (a:Act) (w:World),
  (∀j w,A.getD j true=false->Region.waitsFor md ops j i=false->T w->(j ∉ ex->S w)->U w) ->
  (∀j M,ops[j]? =some M->j≠i->A.getD j true=false->(∀e∈M.after,Region.binds md e=true->e.on≠i)->N.apart ops M=true) ->
  i∈Region.ready md ops A->YieldsIf P ops U N v a->U w ->
  F4 P md ops Q S T ex fuel (A.setIfInBounds i true) (a.put N.dst v) w->F4 P md ops Q S T ex (fuel+1) A a w:=by
 intro fuel
 induction fuel with
 | zero=>
  intro A a w _ _ L x W H;refine⟨fun h=>(by rw[h]at L;cases L),fun j y=>?_⟩;by_cases B:j=i
  ·subst B;exact x.wpOp n W ⟨V _ W,H⟩
  ·have:=ready_mono y B
   rw[H.1]at this
   cases this
 | succ fuel ih=>
  intro A a w Y C L x W H;refine⟨fun h=>(by rw[h]at L;cases L),fun j y=>?_⟩;by_cases B:j=i
  ·subst B;exact x.wpOp n W ⟨V _ W,H⟩
  ·have K:=H.2 j (ready_mono y B)
   obtain⟨D,M,F,X⟩:=mem_ready.1 y
   have I:∀e∈M.after,Region.binds md e=true->e.on≠i:=fun e r t q=>by
    have K:=X e r t;have h0:=(mem_ready.1 L).1;rw[q]at K;rcases Nat.lt_or_ge i A.size with u|u
    ·simp[u]at h0 K;rw[h0]at K;cases K
    ·simp[Array.getElem?_eq_none u]at K
   have m:Region.waitsFor md ops j i=false:=by
    cases hw:Region.waitsFor md ops j i with
    | false=>rfl
    | true=>
     obtain⟨oj',Z,e,r,t,d⟩:=Region.waitsFor_spec hw;rw[F]at Z;cases Z
     exact absurd d (I e r t)
   have h2:=wpOp_putIf F (C j M F B D I) (fun O b=>J i N O b n) (fun O b=>J j M O b F) hQ x K
   have E:∀k,(A.setIfInBounds j true).getD k true=false->A.getD k true=false:=fun k G=>by
    by_cases z:j=k
    ·subst z;exact D
    ·rw[getD_set_ne true z]at G;exact G
   refine wpOp_mono (fun a' w' R=>⟨R.2.1,?_⟩) h2;refine ih (A.setIfInBounds j true) a' w' (fun k w1 l=>Y k w1 (E k l)) (fun k ok l g G f=>C k ok l g (E k G) f) (ready_mono L (Ne.symm B)) R.1 (Y j w' D m R.2.1.1 R.2.1.2) ?_;rw[Array.setIfInBounds_comm _ _ B];exact R.2.2
def uy(P:Program)(ops:Array Oper)(Q:Exit->Act->World->Prop)(S T:World->Prop)(ex:List Nat):List (Nat×Nat)->Act->World->Prop
 | [],a,w=>Q .normal a w
 | (k,0)::ss,a,w=> ∃o,ops[k]? =some o/\∃v,YieldsIf P ops T o v a/\T w/\uy P ops Q S T ex ss (a.put o.dst v) w
 | (k,1)::ss,a,w=> ∃o,ops[k]? =some o/\∃v,YieldsIf P ops (fun w=>T w/\S w) o v a/\(T w/\S w)/\uy P ops Q S T ex ss (a.put o.dst v) w
 | (k,_)::ss,a,w=> ∃o,ops[k]? =some o/\Region.wanted o (yielded ops a.tmps)=true/\o.wp P a w (fun a' w'=>(T w'/\(ex.contains k=false->S w'))/\uy P ops Q S T ex ss a' w') Q
def AA(md:Region.Mode)(ops:Array Oper)(ex:List Nat):List (Nat×Nat)->Array Bool->Bool
 | [],listed=>(Region.ready md ops listed).isEmpty
 | (k,0)::ss,listed=>Region.free md ops listed k&&(Region.ready md ops listed).contains k&&ex.contains k&&AA md ops ex ss (listed.setIfInBounds k true)
 | (k,1)::ss,listed=>Region.free md ops listed k&&(Region.ready md ops listed).contains k&&ex.all (fun j=>listed.getD j true || Region.waitsFor md ops j k)&&AA md ops ex ss (listed.setIfInBounds k true)
 | (k,_)::ss,listed=>(Region.ready md ops listed==[k])&&AA md ops ex ss (listed.setIfInBounds k true)
theorem Qs(X:Region.noSelect ops=true)(W:∀c a b w,Q (.panic c) a w->Q (.panic c) b w):∀(D:List (Nat×Nat)) (A:Array Bool) (a:Act) (w:World),
 AA md ops ex D A=true->uy P ops Q S T ex D a w->F4 P md ops Q S T ex D.length A a w:=by
 intro D
 induction D with
 | nil=>
  intro A a w C h;exact⟨by simpa [AA] using C,by simpa [uy] using h⟩
 | cons s D ih=>
  intro A a w C h;obtain⟨k,s⟩:=s
  match s with
  | 0=>
   simp only[AA,aad]at C;obtain⟨⟨⟨E,G⟩,J⟩,K⟩:=C;obtain⟨o,B,v,V,M,H⟩:=h;exact F3 (U:=T) B (Region.noSelect_spec X) (fun w F=>⟨F,fun I=>absurd (by simpa using J) I⟩) (fun c a w O=>W c _ _ w O) D.length A a w (fun _ _ _ _ R _=>R) (Region.free_spec B E) (by simpa using G) V M (ih _ _ w K H)
  | 1=>
   simp only[AA,aad]at C;obtain⟨⟨⟨E,G⟩,J⟩,K⟩:=C;obtain⟨o,B,v,V,M,H⟩:=h;refine F3 (U:=fun w=>T w/\S w) B (Region.noSelect_spec X) (fun w F=>⟨F.1,fun _=>F.2⟩) (fun c a w O=>W c _ _ w O) D.length A a w (fun j w y F R I=>⟨R,I (fun x=>?_)⟩) (Region.free_spec B E) (by simpa using G) V M (ih _ _ w K H);have:=List.all_eq_true.1 J j x;rw[y,F]at this
   cases this
  | n+2=>
   simp only[AA,aad,beq_iff_eq]at C;obtain⟨E,G⟩:=C;obtain⟨o,B,z,H⟩:=h;refine⟨fun Z=>(by rw[Z]at E;cases E),fun i N=>?_⟩;rw[E]at N;simp at N;subst N;unfold wpOp;simp only[B,z,if_true];refine .inl (Oper.wp_mono (fun Y w' L=>⟨⟨L.1.1,fun I=>L.1.2 (by simpa using I)⟩,ih (A.setIfInBounds i true) Y w' G L.2⟩) H)
theorem Ql{G:Nat}{a:Act}{w:World}{l:List Oper}(S T:World->Prop)(ex:List Nat)(A:List (Nat×Nat))(D:P.follows .mixedOrders=true)(F:Region.noSelect l.toArray=true)
 (C:A.length=l.length) (B:AA .any l.toArray ex A (Array.replicate l.length false)=true) (h:uy P l.toArray (NoPanic Q) S T ex A a w.drew):(Code.region G l.toArray true).wp P Q a w:=by
 refine wp_region_noPanic (wp_region_any D (LD (S:=S) (T:=T) (ex:=ex) _ _ _ _ ?_));have:=Qs (P:=P) (S:=S) (T:=T) (md:=.any) F (Q:=NoPanic Q) (fun c a b w E=>(E:False).elim) A (Array.replicate l.length false) a w.drew B h;simpa [C] using this
theorem wpHQ_nil{a:Act}{w:World}(h:Q .normal a w):uy P ops (NoPanic Q) S T ex [] a w:=h
theorem Wo{k:Nat}{A:List (Nat×Nat)}{o:Oper}{a:Act}{w:World}{v:Value}(D:ops[k]? =some o)(C:Region.wanted o (yielded ops a.tmps)=true)(B:T w)(E:∀w',T w'->(execOp a.eval o).run P w'= .ok (.value v) w')
 (h:uy P ops Q S T ex A (a.put o.dst v) w):uy P ops Q S T ex ((k,0)::A) a w:=
 ⟨o,D,v,.inl ⟨C,E⟩,B,h⟩
theorem LC{k:Nat}{A:List (Nat×Nat)}{o:Oper}{a:Act}{w:World}{v:Value}(D:ops[k]? =some o)(C:Region.wanted o (yielded ops a.tmps)=true)(B:T w/\S w)(E:∀w',(T w'/\S w')->(execOp a.eval o).run P w'= .ok (.value v) w')
 (h:uy P ops Q S T ex A (a.put o.dst v) w):uy P ops Q S T ex ((k,1)::A) a w:=
 ⟨o,D,v,.inl ⟨C,E⟩,B,h⟩
theorem YS{k:Nat}{A:List (Nat×Nat)}{o:Oper}{a:Act}{w w':World}(E:ops[k]? =some o)(D:Region.wanted o (yielded ops a.tmps)=true)(F:(execOp a.eval o).run P w= .ok .skip w')(C:T w')(B:ex.contains k=false->S w')
 (h:uy P ops Q S T ex A (a.put o.dst undef) w'):uy P ops Q S T ex ((k,2)::A) a w:=
 ⟨o,E,D,by unfold Oper.wp;rw[F];exact⟨⟨C,B⟩,h⟩⟩
theorem JQ{k:Nat}{A:List (Nat×Nat)}{o:Oper}{a:Act}{w w':World}{v:Value}(E:ops[k]? =some o)(D:Region.wanted o (yielded ops a.tmps)=true)(F:(execOp a.eval o).run P w= .ok (.value v) w')(C:T w')(B:ex.contains k=false->S w')
 (h:uy P ops Q S T ex A (a.put o.dst v) w'):uy P ops Q S T ex ((k,2)::A) a w:=
 ⟨o,E,D,by unfold Oper.wp;rw[F];exact⟨⟨C,B⟩,h⟩⟩
theorem wpHQ_law{k:Nat}{A:List (Nat×Nat)}{o:Oper}{a:Act}{w:World}(D:ops[k]? =some o)(C:Region.wanted o (yielded ops a.tmps)=true)
 (h:o.wp P a w (fun B w'=>(T w'/\(ex.contains k=false->S w'))/\uy P ops Q S T ex A B w') Q):uy P ops Q S T ex ((k,2)::A) a w:=⟨o,D,C,h⟩
end
end Go.Proofs.YtoepemlnlpamlaaGreat
