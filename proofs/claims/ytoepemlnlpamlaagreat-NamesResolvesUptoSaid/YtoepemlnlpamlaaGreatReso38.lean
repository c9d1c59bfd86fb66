/- The law NamesResolves holds where what it reads is of bulk at most 1048576: it returns true, and its argument reads as before. Part 38: Rw6 RwQ. -/
import Derived.Test.YtoepemlnlpamlaaGreatReso35
import Derived.Test.YtoepemlnlpamlaaGreatReso36
import Derived.Test.YtoepemlnlpamlaaGreatReso37
set_option maxRecDepth 100000
set_option maxHeartbeats 4000000
namespace Go.Proofs.YtoepemlnlpamlaaGreat
open Go.RowKit
theorem Nj(E:RE)(G:List Dc)(mk:Int)(B:Nat)(hB:B<=E.lo):∀(n:Nat) (t:ae),au t<=n->Xd E G mk B t
 | 0,t,h=>by have:=nJ t;omega
 | n+1,.node k x a z kids,h=>XA E G mk B hB k x a z kids fun c hc=>Nj E G mk B hB n c (by
  have:=Gd hc;rw[au]at h
  omega)
def J2(l:List Dc)(n:Int):Int:=match l.findIdx? fun d=>decide (d.node=n) with|some k=>(k:Int)|none=> -1
theorem OO(A:Option Addr)(n c:Nat)(l:List Dc)(y:Int)(w:World)(h:bN 4 cB w w.heap.size A l)(hl:l.length=n)(hn:n<=1000000):
 Calls Tryz.prog 86 #[.slice A n c,.int .i64 y] w fun e w'=>e= .returned (.int .i64 (J2 l y))/\Below w.heap.size w w':=by
 have H:=kH h;have HL:=kH hl;clear h hl;go_enter Tryz.func86,Tryz.ntmps86
 go_wp2_with fail
 go_loopg [5] n (fun gk s wr=> ∃k:Nat,k+gk=n/\s= .int .i64 (k:Int)/\Below w.heap.size w wr/\∀j d,j<k->l[j]? =some d->decide (d.node=y)=false)
 case atStart=>exact⟨0,by omega,rfl,Below.refl _ _,fun j d hj=>by omega⟩
 case round=>
  obtain⟨k,hk,rfl,hB,ht⟩:=hrel;have hk':k<=n:=by omega
  have HK:=kH hk;have HT:=kH ht;clear hk ht;by_cases hlt:k<n
  ·obtain⟨d,hd⟩:∃d,l[k]? =some d:=⟨_,abI (by rw[HL.out];exact hlt)⟩
   obtain⟨b,o,hA,hb,hc⟩:=(H.out.below hB (abE _)) k _ hd;subst hA;obtain⟨nd,hnd⟩:∃q,d.node=q:=⟨_,rfl⟩
   have d2:wr.cell? ⟨b,o+k*4+2,none⟩=some (.int .i64 nd):=by rw[<- hnd];exact hc 2 _ rfl
   have HD:=kH hd;have lC:=kH hnd;have hki:(k:Int)<(n:Int):=by omega
   clear hc hd hnd;by_cases hx:nd=y
   ·have hres:J2 l y=(k:Int):=by
     unfold J2;rw[Em _ l k d HT.out HD.out (by rw[lC.out];exact decide_eq_true hx)]
    have aM:=kH hres;clear hres;subst hx;go_wp2_with fail
    go_ret
    rw[aM.out];exact⟨rfl,by(repeat (first|exact Below.refl _ _|assumption|refine Below.trans ?_ (Below.mono (by assumption) (by first|omega|(simp;done)|(simp;omega)))|refine Below.alloc ?_ (by first|omega|(simp;done)|(simp;omega)) _|refine Below.setCell ?_ (by first|omega|(simp;done)|(simp;omega)) _|refine Below.drew ?_|refine aR ?_ _))⟩
   ·have hxb:(nd==y)=false:=by simpa using hx
    have hres:∀j d,j<k+1->l[j]? =some d->decide (d.node=y)=false:=fun j e hj he=>by
     by_cases hjk:j=k
     ·subst hjk
      rw[HD.out]at he;cases he
      rw[lC.out];exact decide_eq_false hx
     ·exact HT.out j e (by omega) he
    have aM:=kH hres;clear hres hx;go_wp2_with fail
    go_roundg (gk - 1)
    case measure=>have:=HK.out;omega
    case rel=>exact⟨k+1,by have:=HK.out;omega,by go_num,by(repeat (first|exact Below.refl _ _|assumption|refine Below.trans ?_ (Below.mono (by assumption) (by first|omega|(simp;done)|(simp;omega)))|refine Below.alloc ?_ (by first|omega|(simp;done)|(simp;omega)) _|refine Below.setCell ?_ (by first|omega|(simp;done)|(simp;omega)) _|refine Below.drew ?_|refine aR ?_ _)),aM.out⟩
  ·have hres:J2 l y= -1:=by
    unfold J2;rw[LU _ l (fun j e hj he=>HT.out j e (by rw[HL.out]at hj;omega) he)]
   have aM:=kH hres;clear hres;go_wp2_with fail
   go_ret
   rw[aM.out];exact⟨rfl,by(repeat (first|exact Below.refl _ _|assumption|refine Below.trans ?_ (Below.mono (by assumption) (by first|omega|(simp;done)|(simp;omega)))|refine Below.alloc ?_ (by first|omega|(simp;done)|(simp;omega)) _|refine Below.setCell ?_ (by first|omega|(simp;done)|(simp;omega)) _|refine Below.drew ?_|refine aR ?_ _))⟩
theorem iL.nth{w:World}{B:Nat}:∀{ts:List ae}{vs:List (List Value)},iL w B ts vs->∀(i:Nat) (t:ae),ts[i]? =some t->∃v,vs[i]? =some v/\jU w B t v
 | [],_,_,i,t,h=>by simp at h
 | t::ts,_,h,0,u,hu=>by
  obtain⟨v,vs,rfl,h3,h4⟩:=h;simp at hu;subst hu;exact⟨v,rfl,h3⟩
 | t::ts,_,h,i+1,u,hu=>by
  obtain⟨v,vs,rfl,h3,h4⟩:=h;obtain⟨v2,h5,h6⟩:=iL.nth h4 i u (by simpa using hu);exact⟨v2,by simpa using h5,h6⟩
theorem iL.Lg{w:World}{B:Nat}:∀{ts:List ae}{vs:List (List Value)},iL w B ts vs->∀v∈vs,v.length=5
 | [],vs,h,v,hv=>by
  have:vs=[]:=h;subst this
  cases hv
 | t::ts,_,h,v,hv=>by
  obtain⟨v1,vs,rfl,h3,h4⟩:=h;rcases List.mem_cons.1 hv with rfl|hv
  ·obtain⟨A,c,rfl,-⟩:=h3.five
   rfl
  ·exact iL.Lg h4 v hv
theorem Ih{w w0:World}{base B N c:Nat}{A:Option Addr}{ts:List ae}{vals:List (List Value)}(hO:aL w base 24 5 (.slice A N c) N (List.flatten vals))(hV:iL w0 B ts vals)(hn:ts.length=N)(i:Nat)(t:ae)(hi:ts[i]? =some t):
 ∃b off Ak ck,A=some ⟨b,off,none⟩/\b<w.heap.size/\base<=b/\(∀j v,[Value.int .i64 t.kind,.string t.text,.int .i64 t.at_,.int .i64 t.end_,.slice Ak t.kids.length ck][j]? =some v->w.cell? ⟨b,off+i*5+j,none⟩=some v)/\aK w0 B Ak 0 t.kids:=by
 obtain⟨v,hv,hT⟩:=hV.nth i t hi;obtain⟨Ak,ck,rfl,hk⟩:=hT.five;have hlt:=(abK.1 hi).1;obtain⟨g,off,cap,hv',-,-,hbg,hlt',hc⟩:=hO.form (by omega);cases hv'
 refine⟨g,off,Ak,ck,rfl,hlt',hbg,fun j u hj=>?_,hk⟩;rw[Nat.add_assoc];exact hc _ _ (Cv vals (hV.Lg) i j _ u hv hj)
theorem WQ(t:ae)(ts:List ae)(i:Nat)(o:Int)(out:List Dc):∃dk dn o':Int,(dk= -1\/dk=0\/dk=1\/dk=2)/\(t.kind=3->dk=0/\dn= -1/\o'=(i:Int))/\(t.kind=5->dk=2/\dn= -1/\o'=o)/\(t.kind=4->dk=1/\dn=o/\o'=o) /\
 (¬(t.kind=3\/t.kind=5\/t.kind=4)->dk= -1/\dn= -1/\o'=o)/\il (t::ts) i o out=il ts (i+1) o' (if dk= -1 then out else xZ out ⟨dk,t.text,(i:Int),dn⟩):=by
 rw[il];by_cases h3:t.kind=3
 ·exact⟨0,-1,i,by omega,fun _=>⟨rfl,rfl,rfl⟩,fun h=>by omega,fun h=>by omega,fun h=>absurd (.inl h3) h,by rw[if_pos h3,if_pos h3,if_neg (by omega)]⟩
 ·by_cases h5:t.kind=5
  ·exact⟨2,-1,o,by omega,fun h=>by omega,fun _=>⟨rfl,rfl,rfl⟩,fun h=>by omega,fun h=>absurd (.inr (.inl h5)) h,by rw[if_neg h3,if_neg h3,if_pos h5,if_neg (by omega)]⟩
  ·by_cases h4:t.kind=4
   ·exact⟨1,o,o,by omega,fun h=>by omega,fun h=>by omega,fun _=>⟨rfl,rfl,rfl⟩,fun h=>absurd (.inr (.inr h4)) h,by rw[if_neg h3,if_neg h3,if_neg h5,if_pos h4,if_neg (by omega)]⟩
   ·exact⟨-1,-1,o,by omega,fun h=>absurd h h3,fun h=>absurd h h5,fun h=>absurd h h4,fun _=>⟨rfl,rfl,rfl⟩,by rw[if_neg h3,if_neg h3,if_neg h5,if_neg h4,if_pos rfl]⟩
theorem Qa(t:ae)(A:Option Addr)(c:Nat)(w:World)(hN:au t<=1000000)(hcap:t.kids.length<=c)(hk:aK w w.heap.size A 0 t.kids):
 Calls Tryz.prog 84 #[bD t A c] w fun e w'=> ∃A' c',e= .returned (.slice A' (il (bY t) 0 (-1) []).length c')/\aL w' w.heap.size 49 4 (.slice A' (il (bY t) 0 (-1) []).length c') (il (bY t) 0 (-1) []).length ((il (bY t) 0 (-1) []).flatMap cB)/\Below w.heap.size w w':=by
 obtain⟨i0,hi0,hz0,hz1,hz2⟩:=info_parts Gc;obtain⟨k0,x0,a0,z0,n0,-,-,-,-,-,kX⟩:=fq t A c;obtain⟨W1,hW1⟩:∃W1,(w.alloc (.cells #[.int .i64 k0,.string x0,.int .i64 a0,.int .i64 z0,.slice A n0 c] 24)).alloc (.cells #[] 49)=W1:=⟨_,rfl⟩
 have hb1:Below w.heap.size w W1:=by rw[<- hW1];exact((Below.refl _ w).alloc (abE _) _).alloc (by simp) _
 have hT1:ai W1 w.heap.size 24 #[.int .i64 k0,.string x0,.int .i64 a0,.int .i64 z0,.slice A n0 c]:=by rw[<- hW1];exact(ai.new w _ _).alloc _
 have hE1:ai W1 (w.heap.size+1) 49 #[]:=by
  rw[<- hW1];have:=ai.new (w.alloc (.cells #[.int .i64 k0,.string x0,.int .i64 a0,.int .i64 z0,.slice A n0 c] 24)) 49 #[];simpa using this
 have yP:aL W1 w.heap.size 49 4 (.slice (some ⟨w.heap.size+1,0,none⟩) 0 0) 0 []:=aL.block (Nat.le_succ _) hE1 (Nat.zero_le _) rfl;have hnd:=DN (au t) t A c W1 W1.heap.size (abE _) (abE _) (by omega) hcap (aK.mono hb1.size _ _ _ (aK.below hb1 (abE _) _ _ _ hk));have hlen:=mh t;obtain⟨ts,hts⟩:∃z,bY t=z:=⟨_,rfl⟩
 rw[hts]at hnd hlen⊢;rw[kX]at hnd⊢;obtain⟨N,zm⟩:∃z,ts.length=z:=⟨_,rfl⟩
 have hNb:N<=1000000:=by omega
 obtain⟨R,hR⟩:∃z,il ts 0 (-1) []=z:=⟨_,rfl⟩
 rw[hR];have lC:=kH hnd;have HR:=kH hR;have uX:=kH zm;have HB1:=kH hb1;have zw:=kH yP;obtain⟨⟨t0,t1,t2,t3,t4⟩,-⟩:=hT1.five;have lt':=hT1.lt;clear hb1 hT1 hE1 yP hnd hlen hts kX hcap hk zm hR hN;go_enter Tryz.func84,Tryz.ntmps84
 go_wp2_with (rw[hW1])
 clear t0 t1 t2 t3 t4 lt' hW1;refine lC.out.mono ?_;rintro e2 w2 ⟨v2,n2,vals,rfl,hn2,hO2,hV2,hb2⟩;rw[uX.out]at hn2;subst hn2;obtain⟨A2,c2,rfl,-,-⟩:=hO2.shape;have hOd2:aL w2 w.heap.size 49 4 (.slice (some ⟨w.heap.size+1,0,none⟩) 0 0) 0 []:=zw.out.below hb2 (fun g hg=>(zw.out.lt g hg).2);have HB2:Hid (Below w.heap.size w w2):=kH (HB1.out.trans (hb2.mono HB1.out.size));have HOD2:=kH hOd2;have uy:=kH hO2;have gF:=kH hV2;have HB12:=kH hb2;clear hO2 hV2 hb2 hOd2 lC;go_wp2_with fail
 go_loopg [3,5,6,7] n2 (fun gk s3 s5 s6 _ wr=> ∃(i:Nat) (o:Int) (A3:Option Addr) (n3 c3:Nat) (out:List Dc),s6= .int .i64 (i:Int)/\i+gk=n2/\s5= .int .i64 o/\s3= .slice A3 n3 c3/\Hid (out.length=n3/\n3<=i/\aL wr w.heap.size 49 4 (.slice A3 n3 c3) n3 (out.flatMap cB)/\aL wr W1.heap.size 24 5 (.slice A2 n2 c2) n2 (List.flatten vals)/\Below w.heap.size w wr/\il (ts.drop i) i o out=R))
 case atStart=>exact⟨0,-1,some ⟨w.heap.size+1,0,none⟩,0,0,[],rfl,by omega,rfl,rfl,kH ⟨rfl,abE _,HOD2.out,uy.out,HB2.out,HR.out⟩⟩
 case round=>
  obtain⟨i,o,A3,n3,c3,out,rfl,hin,rfl,rfl,HI⟩:=hrel;have hib:i<=n2:=by omega
  have rH:=kH hin;clear hin;by_cases hlt:i<n2
  ·obtain⟨tn,htn⟩:∃z,ts[i]? =some z:=⟨_,abI (by rw[uX.out];exact hlt)⟩
   have hdrop:ts.drop i=tn::ts.drop (i+1):=by
    rw[List.drop_eq_getElem_cons (by rw[uX.out];exact hlt)];rw[abI (by rw[uX.out];exact hlt)]at htn;rw[Option.some.inj htn]
   obtain⟨hl3,EJ,hO3,hON,hB3,hgl⟩:=HI.out;obtain⟨b,off,Ak,ck,hA,hbl,-,hcs,-⟩:=Ih hON gF.out uX.out i tn htn;subst hA;obtain⟨dk,dn,o',hdk,h3,h5,h4,hno,hg⟩:=WQ tn (ts.drop (i+1)) i o out;rw[hdrop,hg]at hgl;obtain⟨kd,hkd⟩:∃z,tn.kind=z:=⟨_,rfl⟩
   obtain⟨x,hx⟩:∃z,tn.text=z:=⟨_,rfl⟩
   rw[hkd]at h3 h5 h4 hno;rw[hx]at hgl;have z0:wr.cell? ⟨b,off+i*5,none⟩=some (.int .i64 kd):=by rw[<- hkd];simpa using hcs 0 _ rfl
   have z1:wr.cell? ⟨b,off+i*5+1,none⟩=some (.string x):=by rw[<- hx];exact hcs 1 _ rfl
   have OA:Hid (out.length=n3/\n3<=i):=kH ⟨hl3,EJ⟩;have IV:=kH hO3;have HON:=kH hON;have HB3:=kH hB3;have UJ:=kH hgl;have hn3b:n3<=1000000:=by omega
   have aaH:(i:Int)<(n2:Int):=by omega
   have hi00:¬((i:Int)<0):=by omega
   have hw2:IntKind.i64.wrap ((i:Int)+1)=(i:Int)+1:=IntWalk.i64_in _ (by omega);clear htn hdrop hl3 EJ hO3 hON hB3 hgl hcs hg hkd hx HI;go_upto_region 8 with fail
   obtain⟨W5,jk⟩:∃z,wr.alloc (.cells #[.int .i64 (-1),.string x,.int .i64 (i:Int),.int .i64 (-1)] 49)=z:=⟨_,rfl⟩
   have hD5:ai W5 wr.heap.size 49 #[.int .i64 (-1),.string x,.int .i64 (i:Int),.int .i64 (-1)]:=by rw[<- jk];exact ai.new wr _ _
   have hb5:Below wr.heap.size wr W5:=by rw[<- jk];exact ag _ _
   rw[jk];have y0:=(hb5.cell (p:=⟨b,off+i*5,none⟩) hbl).trans z0;have f5:=hD5.frozen 0;have f53:=hD5.frozen 3;have d50:=hD5.cell 0;have d53:=hD5.cell 3;have l5:=hD5.lt;have HD5:=kH hD5;have jb:=kH hb5;clear jk z0 z1 hD5 hb5;go_upto_block 2 with fail
   go_cut [5] (fun s5 wx=>s5= .int .i64 o'/\Hid (ai wx wr.heap.size 49 #[.int .i64 dk,.string x,.int .i64 (i:Int),.int .i64 dn]/\Below wr.heap.size wr wx))
   case first=>
    by_cases k3:kd=3
    ·obtain⟨rfl,rfl,rfl⟩:=h3 k3
     have HE:Hid (ai (W5.setCell ⟨wr.heap.size,0,none⟩ (.int .i64 0)) wr.heap.size 49 #[.int .i64 0,.string x,.int .i64 (i:Int),.int .i64 (-1)]/\Below wr.heap.size wr (W5.setCell ⟨wr.heap.size,0,none⟩ (.int .i64 0))):=kH ⟨by simpa using HD5.out.fM 0 (.int .i64 0),jb.out.setCell (p:=⟨wr.heap.size,0,none⟩) (abE _) _⟩;subst k3;clear h3 h4 h5 hno hdk;go_wp2_with fail
     go_meet
     exact⟨rfl,HE⟩
    ·by_cases k5:kd=5
     ·obtain⟨rfl,rfl,rfl⟩:=h5 k5
      have HE:Hid (ai (W5.setCell ⟨wr.heap.size,0,none⟩ (.int .i64 2)) wr.heap.size 49 #[.int .i64 2,.string x,.int .i64 (i:Int),.int .i64 (-1)]/\Below wr.heap.size wr (W5.setCell ⟨wr.heap.size,0,none⟩ (.int .i64 2))):=kH ⟨by simpa using HD5.out.fM 0 (.int .i64 2),jb.out.setCell (p:=⟨wr.heap.size,0,none⟩) (abE _) _⟩;subst k5;clear h3 h4 h5 hno hdk k3;go_wp2_with fail
      go_meet
      exact⟨rfl,HE⟩
     ·by_cases k4:kd=4
      ·obtain⟨rfl,e2,e3⟩:=h4 k4
       have HE:Hid (ai ((W5.setCell ⟨wr.heap.size,0,none⟩ (.int .i64 1)).setCell ⟨wr.heap.size,3,none⟩ (.int .i64 o)) wr.heap.size 49 #[.int .i64 1,.string x,.int .i64 (i:Int),.int .i64 o]/\Below wr.heap.size wr ((W5.setCell ⟨wr.heap.size,0,none⟩ (.int .i64 1)).setCell ⟨wr.heap.size,3,none⟩ (.int .i64 o))):=kH ⟨by simpa using(HD5.out.fM 0 (.int .i64 1)).fM 3 (.int .i64 o),(jb.out.setCell (p:=⟨wr.heap.size,0,none⟩) (abE _) _).setCell (p:=⟨wr.heap.size,3,none⟩) (abE _) _⟩;subst k4;clear h3 h4 h5 hno hdk k3 k5;go_wp2_with fail
       go_meet
       exact⟨by rw[e3],by rw[e2];exact HE⟩
      ·obtain⟨rfl,rfl,rfl⟩:=hno (fun e=>e.elim k3 (fun e=>e.elim k5 k4))
       have HE:Hid (ai W5 wr.heap.size 49 #[.int .i64 (-1),.string x,.int .i64 (i:Int),.int .i64 (-1)]/\Below wr.heap.size wr W5):=kH ⟨HD5.out,jb.out⟩;have b3:(kd==3)=false:=by simpa using k3
       have b5:(kd==5)=false:=by simpa using k5
       have b4:(kd==4)=false:=by simpa using k4
       clear h3 h4 h5 hno hdk k3 k5 k4;go_wp2_with fail
       go_meet
       exact⟨rfl,HE⟩
   case rest=>
    obtain⟨rfl,HE⟩:=hcut;obtain⟨wd,rfl⟩:∃wd:World,wd=wc:=⟨_,rfl⟩
    have hOd:=IV.out.below HE.out.2 (fun g hg=>(IV.out.lt g hg).2);have hOn:=HON.out.below HE.out.2 (fun g hg=>(HON.out.lt g hg).2);have hBd:Below w.heap.size w wd:=HB3.out.trans (HE.out.2.mono HB3.out.size);have UA:=kH hOd;have Sd:=kH hOn;have zy:=kH hBd;have e0:=HE.out.1.cell 0;have e1:=HE.out.1.cell 1;have e2:=HE.out.1.cell 2;have e3:=HE.out.1.cell 3;have le:=HE.out.1.lt;clear hOd hOn hBd y0 f5 f53 d50 d53 l5 h3 h4 h5 hno jb HD5;by_cases hneg:dk= -1
    ·have HN:Hid (out.length=n3/\n3<=i+1/\aL wd w.heap.size 49 4 (.slice A3 n3 c3) n3 (out.flatMap cB)/\aL wd W1.heap.size 24 5 (.slice (some ⟨b,off,none⟩) n2 c2) n2 (List.flatten vals)/\Below w.heap.size w wd/\il (ts.drop (i+1)) (i+1) o' out=R):=kH ⟨OA.out.1,by have:=OA.out.2;omega,UA.out,Sd.out,zy.out,by have:=UJ.out;rw[if_pos hneg]at this;exact this⟩
     subst hneg;go_wp2_with fail
     go_roundg (gk - 1)
     case measure=>have:=rH.out;omega
     case rel=>exact⟨i+1,o',A3,n3,c3,out,by simp,by have:=rH.out;omega,rfl,rfl,HN⟩
    ·have hge:(0:Int)<=dk:=by omega
     obtain⟨f,hf⟩:∃f,decide (dk=1)=f:=⟨_,rfl⟩
     have hf2:(dk==1)=f:=by rw[<- hf,Bool.eq_iff_iff];simp
     have jE:=BA A3 n3 c3 out f x wd (UA.out.rowAt (cells:=cB) (l:=out) rfl rfl (fun _ _=>rfl) OA.out.1) OA.out.1 hn3b;have hgl:=UJ.out;rw[if_neg hneg]at hgl;unfold xZ at hgl;rw[show decide ((⟨dk,x,(i:Int),dn⟩:Dc).kind=1)=f from hf,show(⟨dk,x,(i:Int),dn⟩:Dc).name=x from rfl]at hgl
     cases hfo:oP out f x with
     | some j=>
      rw[hfo,if_pos (show(some j).isSome=true from rfl)]at hgl;have hfi:uS out f x=(j:Int):=by unfold uS;rw[hfo]
      rw[hfi]at jE;have hj0:¬((j:Int)<0):=by omega
      have yY:=kH jE;have aby:=kH hgl;clear jE hgl hfo hfi hf hneg hdk;go_wp2_with fail
      refine yY.out.mono ?_;rintro e6 w6 ⟨rfl,hb6⟩;have HN:Hid (out.length=n3/\n3<=i+1/\aL w6 w.heap.size 49 4 (.slice A3 n3 c3) n3 (out.flatMap cB)/\aL w6 W1.heap.size 24 5 (.slice (some ⟨b,off,none⟩) n2 c2) n2 (List.flatten vals)/\Below w.heap.size w w6/\il (ts.drop (i+1)) (i+1) o' out=R):=kH ⟨OA.out.1,by have:=OA.out.2;omega,UA.out.below hb6 (fun g hg=>(UA.out.lt g hg).2),Sd.out.below hb6 (fun g hg=>(Sd.out.lt g hg).2),zy.out.trans (hb6.mono zy.out.size),aby.out⟩;clear hb6 yY;go_wp2_with fail
      go_roundg (gk - 1)
      case measure=>have:=rH.out;omega
      case rel=>exact⟨i+1,o',A3,n3,c3,out,by simp,by have:=rH.out;omega,rfl,rfl,HN⟩
     | none=>
      rw[hfo,if_neg (show ¬(none:Option Nat).isSome=true by simp)]at hgl;have hfi:uS out f x= -1:=by unfold uS;rw[hfo]
      rw[hfi]at jE;have yY:=kH jE;have aby:=kH hgl;clear jE hgl hfo hfi hf hneg hdk;go_wp2_with fail
      refine yY.out.mono ?_;rintro e6 w6 ⟨rfl,hb6⟩;have Ui:=HE.out.1.below hb6 HE.out.1.lt;have LJ:=UA.out.below hb6 (fun g hg=>(UA.out.lt g hg).2);have IC:=Sd.out.below hb6 (fun g hg=>(Sd.out.lt g hg).2);have yQ:Below w.heap.size w w6:=zy.out.trans (hb6.mono zy.out.size);have g0:=Ui.cell 0;have g1:=Ui.cell 1;have g2:=Ui.cell 2;have g3:=Ui.cell 3;have lg:=Ui.lt;have Dq:=kH LJ;have ZB:=kH IC;have mP:=kH yQ;clear hb6 Ui LJ IC yQ yY e0 e1 e2 e3 le;go_wp2_with (at_builtin;refine dm _ rfl (.tmp 54) (.tmp 56) _ rfl w.heap.size 49 i0 _ 4 40 Tryz.underlying27 hi0 hz0 hz1 hz2 rfl (.slice A3 n3 c3) n3 (out.flatMap cB) rfl (Dq.out.alloc _) ⟨w6.heap.size,0,none⟩ 1 1 (cB ⟨dk,x,(i:Int),dn⟩) rfl rfl (rQ _ _ _ _ _ _ (by go_simp) (by go_simp) (by go_simp) (by go_simp)) (by simp[cB,Value.oneCell']) (by simp only[maxLen];omega) (by omega) (by have:=mP.out.size;simp;omega) ?_;intro v9 w9 hown hgrow hat;obtain⟨A9,c9,gV,-,-⟩:=hown.shape;subst gV;have hN9:=(ZB.out.alloc (.cells #[.int .i64 dk,.string x,.int .i64 (i:Int),.int .i64 dn] 49)).kept hgrow (by cases hv:Value.ownBlock (.slice (some ⟨b,off,none⟩) n2 c2) with|none=>exact .inl rfl|some g=>exact .inr (fun e=>ZB.out.apart Dq.out (by decide) g hv e.symm));have fA:Below w.heap.size w w9:=(mP.out.trans ((ag w6 _).mono mP.out.size)).trans (xm hgrow (by have:=mP.out.size;simp;omega) (fun k hk=>(Dq.out.lt k hk).1));have HOWN:=kH hown;have HN9:=kH hN9;have zz:=kH fA;clear hown hgrow hat hN9 fA)
      have HN:Hid ((out++[(⟨dk,x,(i:Int),dn⟩:Dc)]).length=n3+1/\n3+1<=i+1/\aL w9 w.heap.size 49 4 (.slice A9 (n3+1) c9) (n3+1) ((out++[(⟨dk,x,(i:Int),dn⟩:Dc)]).flatMap cB)/\aL w9 W1.heap.size 24 5 (.slice (some ⟨b,off,none⟩) n2 c2) n2 (List.flatten vals)/\Below w.heap.size w w9/\il (ts.drop (i+1)) (i+1) o' (out++[(⟨dk,x,(i:Int),dn⟩:Dc)])=R):=kH ⟨by rw[abP,OA.out.1];rfl,by have:=OA.out.2;omega,by rw[List.flatMap_append];simpa using HOWN.out,HN9.out,zz.out,aby.out⟩;clear g0 g1 g2 g3 lg Dq ZB mP HOWN HN9 zz;go_roundg (gk - 1)
      case measure=>have:=rH.out;omega
      case rel=>exact⟨i+1,o',A9,n3+1,c9,out++[⟨dk,x,(i:Int),dn⟩],by simp,by have:=rH.out;omega,rfl,rfl,HN⟩
  ·have hie:i=n2:=by omega
   subst hie
   have aO:Hid (∃A' c',Value.slice A3 n3 c3= .slice A' R.length c'/\aL wr w.heap.size 49 4 (.slice A' R.length c') R.length (R.flatMap cB)/\Below w.heap.size w wr):=kH (by
    obtain⟨h1,h2,h3,h4,h5,h6⟩:=HI.out;rw[List.drop_of_length_le (by rw[uX.out];exact abE _),il]at h6;subst h6;rw[h1]
    exact⟨A3,c3,rfl,h3,h5⟩)
   clear HI;go_wp2_with fail
   go_ret
   obtain⟨A',c',h1,h2⟩:=aO.out;exact⟨A',c',by rw[h1];rfl,h2⟩
end Go.Proofs.YtoepemlnlpamlaaGreat
namespace Go.Proofs.YtoepemlnlpamlaaGreat
def UB(M:Int)(q:RW):Prop:=∀v∈q.uses,-M - 2<=v/\v<=M
theorem UB.set{M:Int}{q:RW}(h:UB M q)(i:Nat){v:Int}(hv: -M - 2<=v/\v<=M):∀u∈q.uses.set i v,-M - 2<=u/\u<=M:=fun u hu=>by
 rcases List.mem_or_eq_of_mem_set hu with h1|rfl
 ·exact h u h1
 ·exact hv
theorem YT{G:List Dc}{a b:Int}{x:ByteArray}{n:Int}(h:gu G a b x=some n):∃d∈G,d.node=n:=by
 unfold gu at h
 cases hg:mW G (decide (a=1)) x with
 | none=>rw[hg]at h;cases h
 | some d=>
  rw[hg]at h;obtain⟨j,-,hj,-⟩:=zL hg;have h2:(if d.kind=a\/d.kind=b then some d.node else none)=some n:=h;split at h2
  ·exact⟨d,abQ hj,Option.some.inj h2⟩
  ·cases h2
section
variable {G:List Dc}{M:Int}(hG:∀d∈G,0<=d.node/\d.node<=M)
theorem GV{q:RW}(h:UB M q)(c:Int)(t:ae):UB M (sG q c t):=h
theorem Y5{q:RW}(h:UB M q)(hd:(q.ds.length:Int)<=M)(c:Int)(t:ae)(o:Int):UB M (sN q c t o):=h.set q.num ⟨by omega,hd⟩
theorem var_ub{q:RW}(h:UB M q)(hd:(q.ds.length:Int)<=M)(s:List Nat)(t:ae)(c o:Int):UB M (fK G q s t c o).1:=by
 unfold fK;split
 ·exact GV h _ _
 ·exact Y5 h hd _ _ _
theorem YU{q:RW}(h:UB M q)(hd:(q.ds.length:Int)<=M)(t:ae)(c o:Int):UB M (fG G q t c o):=by
 unfold fG;split
 ·exact Y5 h hd _ _ _
 ·exact GV h _ _
theorem name_ub{q:RW}(h:UB M q)(hd:(q.ds.length:Int)<=M){s:List Nat}(hs:oJ s q)(t:ae):UB M (yx q s t):=by
 unfold yx;split
 ·rename_i k hk
  have:=hs.2 k (List.mem_of_find?_eq_some hk);exact h.set q.num ⟨by omega,by omega⟩
 ·exact GV h _ _
include hG in
theorem useg_ub{q:RW}(h:UB M q)(t:ae)(a b:Int)(x:ByteArray):UB M (su q t (gu G a b x)):=by
 cases hg:gu G a b x with
 | none=>exact GV h _ _
 | some n=>
  obtain⟨d,hd,rfl⟩:=YT hg;have:=hG d hd;exact h.set q.num ⟨by omega,by omega⟩
include hG in
theorem head_ub{q:RW}(h:UB M q)(hd:(q.ds.length:Int)<=M){s:List Nat}(hs:oJ s q)(t:ae)(o:Int):UB M (mV G q s t o):=by
 unfold mV;repeat (first|exact YU h hd _ _ _|exact name_ub h hd hs _|exact useg_ub hG h _ _ _ _|exact var_ub h hd _ _ _ _|exact h|split)
theorem mark_ub{q:RW}(h:UB M q)(mk:Int)(s:List Nat):UB M (dE mk q s):=by
 unfold dE;split<;>exact h
end
mutual
theorem Tv{G:List Dc}{M:Int}(hG:∀d∈G,0<=d.node/\d.node<=M)(mk:Int):∀(t:ae) (o:Int) (s:List Nat) (q:RW),oJ s q->UB M q->(q.ds.length:Int)+au t<=M->UB M (bQ G mk t o s q).1
 | .node k x a e kids,o,s,q,hs,h,hM=>by
  have h1:=QC mk q s;have h2:=Ec G (dE mk q s) s (.node k x a e kids) o;have hms:oJ s (dE mk q s):=hs.mono h1;have hc:au (.node k x a e kids)=1+aG kids:=rfl;have d1:=h1.Og;have d2:=h2.1.Og;rw[bQ];exact Ph hG mk k _ kids 0 _ s _ (J7 _ o hms) (hms.mono h2.1) (head_ub hG (mark_ub h mk s) (by omega) hms _ o) (by omega)
theorem Ph{G:List Dc}{M:Int}(hG:∀d∈G,0<=d.node/\d.node<=M)(mk k:Int)(af:List Nat):∀(ts:List ae) (i:Nat) (o:Int) (s:List Nat) (q:RW),oJ af q->oJ s q->UB M q->(q.ds.length:Int)+aG ts<=M->UB M (dQ G mk k af ts i o s q).1
 | [],i,o,s,q,_,_,h,_=>by
  rw[dQ];exact h
 | t::ts,i,o,s,q,YH,hs,h,hM=>by
  have h0:uw q { q with num:=q.num+1 } 0:=⟨abE _,abE _,abE _,rfl⟩
  have hc:aG (t::ts)=au t+aG ts:=rfl
  have hin:oJ (if k=16/\i=2 then af else s) { q with num:=q.num+1 }:=by
   split
   ·exact YH.mono h0
   ·exact hs.mono h0
  obtain⟨a1,-,a3⟩:=Dx G mk t o (if k=16/\i=2 then af else s) { q with num:=q.num+1 };have d1:=a1.Og;have e1:({ q with num:=q.num+1 }:RW).ds=q.ds:=rfl;rw[e1]at d1;rw[dQ];refine Ph hG mk k af ts (i+1) o _ _ ((YH.mono h0).mono a1) ?_ (Tv hG mk t o _ { q with num:=q.num+1 } hin h (by rw[e1];omega)) (by omega);split
  ·exact a3 hin
  ·exact hin.mono a1
end
theorem Ka{out:List Dc}{d e:Dc}(h:e∈xZ out d):e∈out\/e=d:=by
 unfold xZ at h;split at h
 ·exact .inl h
 ·rcases List.mem_append.1 h with h|h
  ·exact .inl h
  ·exact .inr (List.mem_singleton.1 h)
theorem IG:∀(ts:List ae) (i:Nat) (o:Int) (out:List Dc),∀d∈il ts i o out,d∈out\/((i:Int)<=d.node/\d.node<((i+ts.length:Nat):Int))
 | [],i,o,out,d,h=>.inl (by rw[il]at h;exact h)
 | t::ts,i,o,out,d,h=>by
  rw[il]at h;have hl:(t::ts).length=ts.length+1:=rfl;rcases IG ts _ _ _ d h with h1|h1
  ·have h2:d∈out\/d.node=(i:Int):=by
    split at h1
    ·exact(Ka h1).imp_right fun e=>by rw[e]
    ·split at h1
     ·exact(Ka h1).imp_right fun e=>by rw[e]
     ·split at h1
      ·exact(Ka h1).imp_right fun e=>by rw[e]
      ·exact .inl h1
   exact h2.imp_right fun e=>by rw[e,hl];omega
  ·exact .inr (by rw[hl];omega)
end Go.Proofs.YtoepemlnlpamlaaGreat
