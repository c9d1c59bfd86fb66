/- The law NamesVisibleAt holds where what it reads is of bulk at most 1048576: it returns true, and its arguments read as before. Part 39: Rw6 RwQ. -/
import Derived.Test.YtoepemlnlpamlaaGreatVisa36
import Derived.Test.YtoepemlnlpamlaaGreatVisa37
import Derived.Test.YtoepemlnlpamlaaGreatVisa38
set_option maxRecDepth 100000
set_option maxHeartbeats 4000000
namespace Go.Proofs.YtoepemlnlpamlaaGreat
open Go.RowKit
theorem Oi(E:RE)(G:List Dc)(mk:Int)(B:Nat)(A:B<=E.lo):∀(n:Nat) (t:ae),ai t<=n->Yy E G mk B t
 | 0,t,h=>by have:=lN t;omega
 | n+1,.node k x a z kids,h=>YV E G mk B A k x a z kids fun c C=>Oi E G mk B A n c (by
  have:=Hd C;rw[ai]at h
  omega)
def K4(l:List Dc)(n:Int):Int:=match l.findIdx? fun d=>decide (d.node=n) with|some k=>(k:Int)|none=> -1
theorem PX(A:Option Addr)(n c:Nat)(l:List Dc)(y:Int)(w:World)(h:bU 4 dL w w.heap.size A l)(U:l.length=n)(t:n<=1000000):
 Calls Tryz.prog 86 #[.slice A n c,.int .i64 y] w fun e w'=>e= .returned (.int .i64 (K4 l y))/\Below w.heap.size w w':=by
 have H:=kH h;have R:=kH U;clear h U;go_in
 go_wp2_with fail
 go_loopg [5] n (fun gk s wr=> ∃k:Nat,k+gk=n/\s= .int .i64 (k:Int)/\Below w.heap.size w wr/\∀j d,j<k->l[j]? =some d->decide (d.node=y)=false)
 case atStart=>exact⟨0,by omega,rfl,Below.refl _ _,fun j d K=>by omega⟩
 case round=>
  obtain⟨k,T,rfl,Y,V⟩:=hrel;have Z:k<=n:=by omega
  have Q:=kH T;have I:=kH V;clear T V;by_cases N:k<n
  ·obtain⟨d,J⟩:∃d,l[k]? =some d:=⟨_,aaf (by rw[R.out];exact N)⟩
   obtain⟨b,o,X,u,S⟩:=(H.out.below Y (aab _)) k _ J;subst X;obtain⟨O,C⟩:∃q,d.node=q:=⟨_,rfl⟩
   have v:wr.cell? ⟨b,o+k*4+2,none⟩=some (.int .i64 O):=by rw[<- C];exact S 2 _ rfl
   have P:=kH J;have W:=kH C;have z:(k:Int)<(n:Int):=by omega
   clear S J C;by_cases F:O=y
   ·have B:K4 l y=(k:Int):=by
     unfold K4;rw[E8 _ l k d I.out P.out (by rw[W.out];exact decide_eq_true F)]
    have D:=kH B;clear B;subst F;go_wp2_with fail
    go_ret
    rw[D.out];exact⟨rfl,by(repeat (first|exact Below.refl _ _|assumption|refine Below.trans ?_ (Below.mono (by assumption) (by first|omega|(simp;done)|(simp;omega)))|refine Below.alloc ?_ (by first|omega|(simp;done)|(simp;omega)) _|refine Below.setCell ?_ (by first|omega|(simp;done)|(simp;omega)) _|refine Below.drew ?_|refine aT ?_ _))⟩
   ·have x:(O==y)=false:=by simpa using F
    have B:∀j d,j<k+1->l[j]? =some d->decide (d.node=y)=false:=fun j e K E=>by
     by_cases L:j=k
     ·subst L
      rw[P.out]at E;cases E
      rw[W.out];exact decide_eq_false F
     ·exact I.out j e (by omega) E
    have D:=kH B;clear B F;go_wp2_with fail
    go_roundg (gk - 1)
    case measure=>have:=Q.out;omega
    case rel=>exact⟨k+1,by have:=Q.out;omega,by go_num,by(repeat (first|exact Below.refl _ _|assumption|refine Below.trans ?_ (Below.mono (by assumption) (by first|omega|(simp;done)|(simp;omega)))|refine Below.alloc ?_ (by first|omega|(simp;done)|(simp;omega)) _|refine Below.setCell ?_ (by first|omega|(simp;done)|(simp;omega)) _|refine Below.drew ?_|refine aT ?_ _)),D.out⟩
  ·have B:K4 l y= -1:=by
    unfold K4;rw[MU _ l (fun j e K E=>I.out j e (by rw[R.out]at K;omega) E)]
   have D:=kH B;clear B;go_wp2_with fail
   go_ret
   rw[D.out];exact⟨rfl,by(repeat (first|exact Below.refl _ _|assumption|refine Below.trans ?_ (Below.mono (by assumption) (by first|omega|(simp;done)|(simp;omega)))|refine Below.alloc ?_ (by first|omega|(simp;done)|(simp;omega)) _|refine Below.setCell ?_ (by first|omega|(simp;done)|(simp;omega)) _|refine Below.drew ?_|refine aT ?_ _))⟩
theorem iP.nth{w:World}{B:Nat}:∀{ts:List ae}{A:List (List Value)},iP w B ts A->∀(i:Nat) (t:ae),ts[i]? =some t->∃v,A[i]? =some v/\ky w B t v
 | [],_,_,i,t,h=>by simp at h
 | t::ts,_,h,0,u,hu=>by
  obtain⟨v,A,rfl,C,D⟩:=h;simp at hu;subst hu;exact⟨v,rfl,C⟩
 | t::ts,_,h,i+1,u,hu=>by
  obtain⟨v,A,rfl,C,D⟩:=h;obtain⟨H,E,F⟩:=iP.nth D i u (by simpa using hu);exact⟨H,by simpa using E,F⟩
theorem iP.Ms{w:World}{B:Nat}:∀{ts:List ae}{D:List (List Value)},iP w B ts D->∀v∈D,v.length=5
 | [],D,h,v,C=>by
  have:D=[]:=h;subst this
  cases C
 | t::ts,_,h,v,C=>by
  obtain⟨H,D,rfl,E,F⟩:=h;rcases List.mem_cons.1 C with rfl|C
  ·obtain⟨A,c,rfl,-⟩:=E.five
   rfl
  ·exact iP.Ms F v C
theorem Jf{w L:World}{base B N c:Nat}{A:Option Addr}{ts:List ae}{vals:List (List Value)}(P:aK w base 24 5 (.slice A N c) N (List.flatten vals))(J:iP L B ts vals)(W:ts.length=N)(i:Nat)(t:ae)(K:ts[i]? =some t):
 ∃b C E F,A=some ⟨b,C,none⟩/\b<w.heap.size/\base<=b/\(∀j v,[Value.int .i64 t.kind,.string t.text,.int .i64 t.at_,.int .i64 t.end_,.slice E t.kids.length F][j]? =some v->w.cell? ⟨b,C+i*5+j,none⟩=some v)/\aJ L B E 0 t.kids:=by
 obtain⟨v,V,Q⟩:=J.nth i t K;obtain⟨E,F,rfl,T⟩:=Q.five;have U:=(aah.1 K).1;obtain⟨g,C,O,I,-,-,H,D,R⟩:=P.form (by omega);cases I
 refine⟨g,C,E,F,rfl,D,H,fun j u S=>?_,T⟩;rw[Nat.add_assoc];exact R _ _ (Dt vals (J.Ms) i j _ u V S)
theorem Yl(t:ae)(ts:List ae)(i:Nat)(o:Int)(C:List Dc):∃A D F:Int,(A= -1\/A=0\/A=1\/A=2)/\(t.kind=3->A=0/\D= -1/\F=(i:Int))/\(t.kind=5->A=2/\D= -1/\F=o)/\(t.kind=4->A=1/\D=o/\F=o) /\
 (¬(t.kind=3\/t.kind=5\/t.kind=4)->A= -1/\D= -1/\F=o)/\iy (t::ts) i o C=iy ts (i+1) F (if A= -1 then C else yP C ⟨A,t.text,(i:Int),D⟩):=by
 rw[iy];by_cases B:t.kind=3
 ·exact⟨0,-1,i,by omega,fun _=>⟨rfl,rfl,rfl⟩,fun h=>by omega,fun h=>by omega,fun h=>absurd (.inl B) h,by rw[if_pos B,if_pos B,if_neg (by omega)]⟩
 ·by_cases E:t.kind=5
  ·exact⟨2,-1,o,by omega,fun h=>by omega,fun _=>⟨rfl,rfl,rfl⟩,fun h=>by omega,fun h=>absurd (.inr (.inl E)) h,by rw[if_neg B,if_neg B,if_pos E,if_neg (by omega)]⟩
  ·by_cases H:t.kind=4
   ·exact⟨1,o,o,by omega,fun h=>by omega,fun h=>by omega,fun _=>⟨rfl,rfl,rfl⟩,fun h=>absurd (.inr (.inr H)) h,by rw[if_neg B,if_neg B,if_neg E,if_pos H,if_neg (by omega)]⟩
   ·exact⟨-1,-1,o,by omega,fun h=>absurd h B,fun h=>absurd h E,fun h=>absurd h H,fun _=>⟨rfl,rfl,rfl⟩,by rw[if_neg B,if_neg B,if_neg E,if_neg H,if_pos rfl]⟩
theorem QY(t:ae)(A:Option Addr)(c:Nat)(w:World)(hN:ai t<=1000000)(hcap:t.kids.length<=c)(hk:aJ w w.heap.size A 0 t.kids):
 Calls Tryz.prog 84 #[aZ t A c] w fun e w'=> ∃A' c',e= .returned (.slice A' (iy (bT t) 0 (-1) []).length c')/\aK w' w.heap.size 49 4 (.slice A' (iy (bT t) 0 (-1) []).length c') (iy (bT t) 0 (-1) []).length ((iy (bT t) 0 (-1) []).flatMap dL)/\Below w.heap.size w w':=by
 obtain⟨i0,hi0,hz0,hz1,hz2⟩:=info_parts Ha;obtain⟨k0,x0,a0,z0,n0,-,-,-,-,-,jw⟩:=dR t A c;obtain⟨U,X⟩:∃U,(w.alloc (.cells #[.int .i64 k0,.string x0,.int .i64 a0,.int .i64 z0,.slice A n0 c] 24)).alloc (.cells #[] 49)=U:=⟨_,rfl⟩
 have n:Below w.heap.size w U:=by rw[<- X];exact((Below.refl _ w).alloc (aab _) _).alloc (by simp) _
 have hT1:aj U w.heap.size 24 #[.int .i64 k0,.string x0,.int .i64 a0,.int .i64 z0,.slice A n0 c]:=by rw[<- X];exact(aj.new w _ _).alloc _
 have hE1:aj U (w.heap.size+1) 49 #[]:=by
  rw[<- X];have:=aj.new (w.alloc (.cells #[.int .i64 k0,.string x0,.int .i64 a0,.int .i64 z0,.slice A n0 c] 24)) 49 #[];simpa using this
 have vo:aK U w.heap.size 49 4 (.slice (some ⟨w.heap.size+1,0,none⟩) 0 0) 0 []:=aK.block (Nat.le_succ _) hE1 (Nat.zero_le _) rfl;have hnd:=ED (ai t) t A c U U.heap.size (aab _) (aab _) (by omega) hcap (aJ.mono n.size _ _ _ (aJ.below n (aab _) _ _ _ hk));have hlen:=iY t;obtain⟨ts,hts⟩:∃z,bT t=z:=⟨_,rfl⟩
 rw[hts]at hnd hlen⊢;rw[jw]at hnd⊢;obtain⟨N,Ac⟩:∃z,ts.length=z:=⟨_,rfl⟩
 have hNb:N<=1000000:=by omega
 obtain⟨R,hR⟩:∃z,iy ts 0 (-1) []=z:=⟨_,rfl⟩
 rw[hR];have lh:=kH hnd;have HR:=kH hR;have vQ:=kH Ac;have HB1:=kH n;have vP:=kH vo;obtain⟨⟨t0,t1,t2,t3,t4⟩,-⟩:=hT1.five;have lt':=hT1.lt;clear n hT1 hE1 vo hnd hlen hts jw hcap hk Ac hR hN;go_in
 go_wp2_with (rw[X])
 clear t0 t1 t2 t3 t4 lt' X;refine lh.out.mono ?_;rintro e2 w2 ⟨v2,O,vals,rfl,hn2,hO2,hV2,m⟩;rw[vQ.out]at hn2;subst hn2;obtain⟨A2,c2,rfl,-,-⟩:=hO2.shape;have hOd2:aK w2 w.heap.size 49 4 (.slice (some ⟨w.heap.size+1,0,none⟩) 0 0) 0 []:=vP.out.below m (fun g I=>(vP.out.lt g I).2);have HB2:Hid (Below w.heap.size w w2):=kH (HB1.out.trans (m.mono HB1.out.size));have HOD2:=kH hOd2;have r9:=kH hO2;have fU:=kH hV2;have HB12:=kH m;clear hO2 hV2 m hOd2 lh;go_wp2_with fail
 go_loopg [3,5,6,7] O (fun gk s3 s5 s6 _ wr=> ∃(i:Nat) (o:Int) (A3:Option Addr) (D c3:Nat) (B:List Dc),s6= .int .i64 (i:Int)/\i+gk=O/\s5= .int .i64 o/\s3= .slice A3 D c3/\Hid (B.length=D/\D<=i/\aK wr w.heap.size 49 4 (.slice A3 D c3) D (B.flatMap dL)/\aK wr U.heap.size 24 5 (.slice A2 O c2) O (List.flatten vals)/\Below w.heap.size w wr/\iy (ts.drop i) i o B=R))
 case atStart=>exact⟨0,-1,some ⟨w.heap.size+1,0,none⟩,0,0,[],rfl,by omega,rfl,rfl,kH ⟨rfl,aab _,HOD2.out,r9.out,HB2.out,HR.out⟩⟩
 case round=>
  obtain⟨i,o,A3,D,c3,B,rfl,hin,rfl,rfl,HI⟩:=hrel;have hib:i<=O:=by omega
  have qD:=kH hin;clear hin;by_cases hlt:i<O
  ·obtain⟨tn,htn⟩:∃z,ts[i]? =some z:=⟨_,aaf (by rw[vQ.out];exact hlt)⟩
   have Y:ts.drop i=tn::ts.drop (i+1):=by
    rw[List.drop_eq_getElem_cons (by rw[vQ.out];exact hlt)];rw[aaf (by rw[vQ.out];exact hlt)]at htn;rw[Option.some.inj htn]
   obtain⟨hl3,yw,hO3,hON,hB3,C⟩:=HI.out;obtain⟨b,P,Ak,ck,hA,hbl,-,hcs,-⟩:=Jf hON fU.out vQ.out i tn htn;subst hA;obtain⟨Q,u,o',S,r,q,h4,L,I⟩:=Yl tn (ts.drop (i+1)) i o B;rw[Y,I]at C;obtain⟨kd,hkd⟩:∃z,tn.kind=z:=⟨_,rfl⟩
   obtain⟨x,hx⟩:∃z,tn.text=z:=⟨_,rfl⟩
   rw[hkd]at r q h4 L;rw[hx]at C;have z0:wr.cell? ⟨b,P+i*5,none⟩=some (.int .i64 kd):=by rw[<- hkd];simpa using hcs 0 _ rfl
   have z1:wr.cell? ⟨b,P+i*5+1,none⟩=some (.string x):=by rw[<- hx];exact hcs 1 _ rfl
   have PD:Hid (B.length=D/\D<=i):=kH ⟨hl3,yw⟩;have FT:=kH hO3;have HON:=kH hON;have HB3:=kH hB3;have We:=kH C;have hn3b:D<=1000000:=by omega
   have Sj:(i:Int)<(O:Int):=by omega
   have hi00:¬((i:Int)<0):=by omega
   have hw2:IntKind.i64.wrap ((i:Int)+1)=(i:Int)+1:=IntWalk.i64_in _ (by omega);clear htn Y hl3 yw hO3 hON hB3 C hcs I hkd hx HI;go_upto_region 8 with fail
   obtain⟨v,jD⟩:∃z,wr.alloc (.cells #[.int .i64 (-1),.string x,.int .i64 (i:Int),.int .i64 (-1)] 49)=z:=⟨_,rfl⟩
   have J:aj v wr.heap.size 49 #[.int .i64 (-1),.string x,.int .i64 (i:Int),.int .i64 (-1)]:=by rw[<- jD];exact aj.new wr _ _
   have hb5:Below wr.heap.size wr v:=by rw[<- jD];exact ag _ _
   rw[jD];have y0:=(hb5.cell (p:=⟨b,P+i*5,none⟩) hbl).trans z0;have f5:=J.frozen 0;have f53:=J.frozen 3;have d50:=J.cell 0;have d53:=J.cell 3;have l5:=J.lt;have V:=kH J;have gG:=kH hb5;clear jD z0 z1 J hb5;go_upto_block 2 with fail
   go_cut [5] (fun s5 wx=>s5= .int .i64 o'/\Hid (aj wx wr.heap.size 49 #[.int .i64 Q,.string x,.int .i64 (i:Int),.int .i64 u]/\Below wr.heap.size wr wx))
   case first=>
    by_cases k3:kd=3
    ·obtain⟨rfl,rfl,rfl⟩:=r k3
     have F:Hid (aj (v.setCell ⟨wr.heap.size,0,none⟩ (.int .i64 0)) wr.heap.size 49 #[.int .i64 0,.string x,.int .i64 (i:Int),.int .i64 (-1)]/\Below wr.heap.size wr (v.setCell ⟨wr.heap.size,0,none⟩ (.int .i64 0))):=kH ⟨by simpa using V.out.gu 0 (.int .i64 0),gG.out.setCell (p:=⟨wr.heap.size,0,none⟩) (aab _) _⟩;subst k3;clear r h4 q L S;go_wp2_with fail
     go_meet
     exact⟨rfl,F⟩
    ·by_cases k5:kd=5
     ·obtain⟨rfl,rfl,rfl⟩:=q k5
      have F:Hid (aj (v.setCell ⟨wr.heap.size,0,none⟩ (.int .i64 2)) wr.heap.size 49 #[.int .i64 2,.string x,.int .i64 (i:Int),.int .i64 (-1)]/\Below wr.heap.size wr (v.setCell ⟨wr.heap.size,0,none⟩ (.int .i64 2))):=kH ⟨by simpa using V.out.gu 0 (.int .i64 2),gG.out.setCell (p:=⟨wr.heap.size,0,none⟩) (aab _) _⟩;subst k5;clear r h4 q L S k3;go_wp2_with fail
      go_meet
      exact⟨rfl,F⟩
     ·by_cases k4:kd=4
      ·obtain⟨rfl,e2,e3⟩:=h4 k4
       have F:Hid (aj ((v.setCell ⟨wr.heap.size,0,none⟩ (.int .i64 1)).setCell ⟨wr.heap.size,3,none⟩ (.int .i64 o)) wr.heap.size 49 #[.int .i64 1,.string x,.int .i64 (i:Int),.int .i64 o]/\Below wr.heap.size wr ((v.setCell ⟨wr.heap.size,0,none⟩ (.int .i64 1)).setCell ⟨wr.heap.size,3,none⟩ (.int .i64 o))):=kH ⟨by simpa using(V.out.gu 0 (.int .i64 1)).gu 3 (.int .i64 o),(gG.out.setCell (p:=⟨wr.heap.size,0,none⟩) (aab _) _).setCell (p:=⟨wr.heap.size,3,none⟩) (aab _) _⟩;subst k4;clear r h4 q L S k3 k5;go_wp2_with fail
       go_meet
       exact⟨by rw[e3],by rw[e2];exact F⟩
      ·obtain⟨rfl,rfl,rfl⟩:=L (fun e=>e.elim k3 (fun e=>e.elim k5 k4))
       have F:Hid (aj v wr.heap.size 49 #[.int .i64 (-1),.string x,.int .i64 (i:Int),.int .i64 (-1)]/\Below wr.heap.size wr v):=kH ⟨V.out,gG.out⟩;have b3:(kd==3)=false:=by simpa using k3
       have b5:(kd==5)=false:=by simpa using k5
       have b4:(kd==4)=false:=by simpa using k4
       clear r h4 q L S k3 k5 k4;go_wp2_with fail
       go_meet
       exact⟨rfl,F⟩
   case rest=>
    obtain⟨rfl,F⟩:=hcut;obtain⟨wd,rfl⟩:∃wd:World,wd=wc:=⟨_,rfl⟩
    have hOd:=FT.out.below F.out.2 (fun g I=>(FT.out.lt g I).2);have hOn:=HON.out.below F.out.2 (fun g I=>(HON.out.lt g I).2);have hBd:Below w.heap.size w wd:=HB3.out.trans (F.out.2.mono HB3.out.size);have VQ:=kH hOd;have TP:=kH hOn;have vD:=kH hBd;have e0:=F.out.1.cell 0;have e1:=F.out.1.cell 1;have e2:=F.out.1.cell 2;have e3:=F.out.1.cell 3;have le:=F.out.1.lt;clear hOd hOn hBd y0 f5 f53 d50 d53 l5 r h4 q L gG V;by_cases H:Q= -1
    ·have HN:Hid (B.length=D/\D<=i+1/\aK wd w.heap.size 49 4 (.slice A3 D c3) D (B.flatMap dL)/\aK wd U.heap.size 24 5 (.slice (some ⟨b,P,none⟩) O c2) O (List.flatten vals)/\Below w.heap.size w wd/\iy (ts.drop (i+1)) (i+1) o' B=R):=kH ⟨PD.out.1,by have:=PD.out.2;omega,VQ.out,TP.out,vD.out,by have:=We.out;rw[if_pos H]at this;exact this⟩
     subst H;go_wp2_with fail
     go_roundg (gk - 1)
     case measure=>have:=qD.out;omega
     case rel=>exact⟨i+1,o',A3,D,c3,B,by simp,by have:=qD.out;omega,rfl,rfl,HN⟩
    ·have hge:(0:Int)<=Q:=by omega
     obtain⟨f,hf⟩:∃f,decide (Q=1)=f:=⟨_,rfl⟩
     have hf2:(Q==1)=f:=by rw[<- hf,Bool.eq_iff_iff];simp
     have jT:=Cv A3 D c3 B f x wd (VQ.out.rowAt (cells:=dL) (l:=B) rfl rfl (fun _ _=>rfl) PD.out.1) PD.out.1 hn3b;have C:=We.out;rw[if_neg H]at C;unfold yP at C;rw[show decide ((⟨Q,x,(i:Int),u⟩:Dc).kind=1)=f from hf,show(⟨Q,x,(i:Int),u⟩:Dc).name=x from rfl]at C
     cases T:pI B f x with
     | some j=>
      rw[T,if_pos (show(some j).isSome=true from rfl)]at C;have Z:vH B f x=(j:Int):=by unfold vH;rw[T]
      rw[Z]at jT;have hj0:¬((j:Int)<0):=by omega
      have zI:=kH jT;have W:=kH C;clear jT C T Z hf H S;go_wp2_with fail
      refine zI.out.mono ?_;rintro e6 w6 ⟨rfl,E⟩;have HN:Hid (B.length=D/\D<=i+1/\aK w6 w.heap.size 49 4 (.slice A3 D c3) D (B.flatMap dL)/\aK w6 U.heap.size 24 5 (.slice (some ⟨b,P,none⟩) O c2) O (List.flatten vals)/\Below w.heap.size w w6/\iy (ts.drop (i+1)) (i+1) o' B=R):=kH ⟨PD.out.1,by have:=PD.out.2;omega,VQ.out.below E (fun g I=>(VQ.out.lt g I).2),TP.out.below E (fun g I=>(TP.out.lt g I).2),vD.out.trans (E.mono vD.out.size),W.out⟩;clear E zI;go_wp2_with fail
      go_roundg (gk - 1)
      case measure=>have:=qD.out;omega
      case rel=>exact⟨i+1,o',A3,D,c3,B,by simp,by have:=qD.out;omega,rfl,rfl,HN⟩
     | none=>
      rw[T,if_neg (show ¬(none:Option Nat).isSome=true by simp)]at C;have Z:vH B f x= -1:=by unfold vH;rw[T]
      rw[Z]at jT;have zI:=kH jT;have W:=kH C;clear jT C T Z hf H S;go_wp2_with fail
      refine zI.out.mono ?_;rintro e6 w6 ⟨rfl,E⟩;have Vw:=F.out.1.below E F.out.1.lt;have MO:=VQ.out.below E (fun g I=>(VQ.out.lt g I).2);have Ad:=TP.out.below E (fun g I=>(TP.out.lt g I).2);have zz:Below w.heap.size w w6:=vD.out.trans (E.mono vD.out.size);have g0:=Vw.cell 0;have g1:=Vw.cell 1;have g2:=Vw.cell 2;have g3:=Vw.cell 3;have lg:=Vw.lt;have El:=kH MO;have HN6:=kH Ad;have nI:=kH zz;clear E Vw MO Ad zz zI e0 e1 e2 e3 le;go_wp2_with (at_builtin;refine di _ rfl (.tmp 54) (.tmp 56) _ rfl w.heap.size 49 i0 _ 4 40 Tryz.underlying27 hi0 hz0 hz1 hz2 rfl (.slice A3 D c3) D (B.flatMap dL) rfl (El.out.alloc _) ⟨w6.heap.size,0,none⟩ 1 1 (dL ⟨Q,x,(i:Int),u⟩) rfl rfl (sG _ _ _ _ _ _ (by go_simp) (by go_simp) (by go_simp) (by go_simp)) (by simp[dL,Value.oneCell']) (by simp only[maxLen];omega) (by omega) (by have:=nI.out.size;simp;omega) ?_;intro v9 w9 y K hat;obtain⟨A9,c9,gX,-,-⟩:=y.shape;subst gX;have hN9:=(HN6.out.alloc (.cells #[.int .i64 Q,.string x,.int .i64 (i:Int),.int .i64 u] 49)).kept K (by cases hv:Value.ownBlock (.slice (some ⟨b,P,none⟩) O c2) with|none=>exact .inl rfl|some g=>exact .inr (fun e=>HN6.out.apart El.out (by decide) g hv e.symm));have eP:Below w.heap.size w w9:=(nI.out.trans ((ag w6 _).mono nI.out.size)).trans (rR K (by have:=nI.out.size;simp;omega) (fun k hk=>(El.out.lt k hk).1));have HOWN:=kH y;have HN9:=kH hN9;have Ah:=kH eP;clear y K hat hN9 eP)
      have HN:Hid ((B++[(⟨Q,x,(i:Int),u⟩:Dc)]).length=D+1/\D+1<=i+1/\aK w9 w.heap.size 49 4 (.slice A9 (D+1) c9) (D+1) ((B++[(⟨Q,x,(i:Int),u⟩:Dc)]).flatMap dL)/\aK w9 U.heap.size 24 5 (.slice (some ⟨b,P,none⟩) O c2) O (List.flatten vals)/\Below w.heap.size w w9/\iy (ts.drop (i+1)) (i+1) o' (B++[(⟨Q,x,(i:Int),u⟩:Dc)])=R):=kH ⟨by rw[aam,PD.out.1];rfl,by have:=PD.out.2;omega,by rw[List.flatMap_append];simpa using HOWN.out,HN9.out,Ah.out,W.out⟩;clear g0 g1 g2 g3 lg El HN6 nI HOWN HN9 Ah;go_roundg (gk - 1)
      case measure=>have:=qD.out;omega
      case rel=>exact⟨i+1,o',A9,D+1,c9,B++[⟨Q,x,(i:Int),u⟩],by simp,by have:=qD.out;omega,rfl,rfl,HN⟩
  ·have hie:i=O:=by omega
   subst hie
   have aO:Hid (∃A' c',Value.slice A3 D c3= .slice A' R.length c'/\aK wr w.heap.size 49 4 (.slice A' R.length c') R.length (R.flatMap dL)/\Below w.heap.size w wr):=kH (by
    obtain⟨h1,h2,r,h4,q,h6⟩:=HI.out;rw[List.drop_of_length_le (by rw[vQ.out];exact aab _),iy]at h6;subst h6;rw[h1]
    exact⟨A3,c3,rfl,r,q⟩)
   clear HI;go_wp2_with fail
   go_ret
   obtain⟨A',c',h1,h2⟩:=aO.out;exact⟨A',c',by rw[h1];rfl,h2⟩
end Go.Proofs.YtoepemlnlpamlaaGreat
namespace Go.Proofs.YtoepemlnlpamlaaGreat
def UB(M:Int)(q:RW):Prop:=∀v∈q.uses,-M - 2<=v/\v<=M
theorem UB.set{M:Int}{q:RW}(h:UB M q)(i:Nat){v:Int}(C: -M - 2<=v/\v<=M):∀u∈q.uses.set i v,-M - 2<=u/\u<=M:=fun u B=>by
 rcases List.mem_or_eq_of_mem_set B with A|rfl
 ·exact h u A
 ·exact C
theorem gnode_mem{G:List Dc}{a b:Int}{x:ByteArray}{n:Int}(h:gz G a b x=some n):∃d∈G,d.node=n:=by
 unfold gz at h
 cases B:nN G (decide (a=1)) x with
 | none=>rw[B]at h;cases h
 | some d=>
  rw[B]at h;obtain⟨j,-,C,-⟩:=AJ B;have A:(if d.kind=a\/d.kind=b then some d.node else none)=some n:=h;split at A
  ·exact⟨d,aan C,Option.some.inj A⟩
  ·cases A
section
variable {G:List Dc}{M:Int}(hG:∀d∈G,0<=d.node/\d.node<=M)
theorem Iw{q:RW}(h:UB M q)(c:Int)(t:ae):UB M (tF q c t):=h
theorem dec_ub{q:RW}(h:UB M q)(A:(q.ds.length:Int)<=M)(c:Int)(t:ae)(o:Int):UB M (tQ q c t o):=h.set q.num ⟨by omega,A⟩
theorem var_ub{q:RW}(h:UB M q)(A:(q.ds.length:Int)<=M)(s:List Nat)(t:ae)(c o:Int):UB M (fQ G q s t c o).1:=by
 unfold fQ;split
 ·exact Iw h _ _
 ·exact dec_ub h A _ _ _
theorem global_ub{q:RW}(h:UB M q)(A:(q.ds.length:Int)<=M)(t:ae)(c o:Int):UB M (fJ G q t c o):=by
 unfold fJ;split
 ·exact dec_ub h A _ _ _
 ·exact Iw h _ _
theorem name_ub{q:RW}(h:UB M q)(B:(q.ds.length:Int)<=M){s:List Nat}(A:pq s q)(t:ae):UB M (y5 q s t):=by
 unfold y5;split
 ·rename_i k hk
  have:=A.2 k (List.mem_of_find?_eq_some hk);exact h.set q.num ⟨by omega,by omega⟩
 ·exact Iw h _ _
include hG in
theorem useg_ub{q:RW}(h:UB M q)(t:ae)(a b:Int)(x:ByteArray):UB M (sS q t (gz G a b x)):=by
 cases B:gz G a b x with
 | none=>exact Iw h _ _
 | some n=>
  obtain⟨d,A,rfl⟩:=gnode_mem B;have:=hG d A;exact h.set q.num ⟨by omega,by omega⟩
include hG in
theorem head_ub{q:RW}(h:UB M q)(A:(q.ds.length:Int)<=M){s:List Nat}(B:pq s q)(t:ae)(o:Int):UB M (nM G q s t o):=by
 unfold nM;repeat (first|exact global_ub h A _ _ _|exact name_ub h A B _|exact useg_ub hG h _ _ _ _|exact var_ub h A _ _ _ _|exact h|split)
theorem mark_ub{q:RW}(h:UB M q)(mk:Int)(s:List Nat):UB M (dI mk q s):=by
 unfold dI;split<;>exact h
end
mutual
theorem UM{G:List Dc}{M:Int}(hG:∀d∈G,0<=d.node/\d.node<=M)(mk:Int):∀(t:ae) (o:Int) (s:List Nat) (q:RW),pq s q->UB M q->(q.ds.length:Int)+ai t<=M->UB M (bR G mk t o s q).1
 | .node k x a e kids,o,s,q,hs,h,hM=>by
  have B:=Rx mk q s;have C:=ES G (dI mk q s) s (.node k x a e kids) o;have A:pq s (dI mk q s):=hs.mono B;have F:ai (.node k x a e kids)=1+aD kids:=rfl;have D:=B.Pe;have E:=C.1.Pe;rw[bR];exact Qu hG mk k _ kids 0 _ s _ (Lb _ o A) (A.mono C.1) (head_ub hG (mark_ub h mk s) (by omega) A _ o) (by omega)
theorem Qu{G:List Dc}{M:Int}(hG:∀d∈G,0<=d.node/\d.node<=M)(mk k:Int)(B:List Nat):∀(ts:List ae) (i:Nat) (o:Int) (s:List Nat) (q:RW),pq B q->pq s q->UB M q->(q.ds.length:Int)+aD ts<=M->UB M (dW G mk k B ts i o s q).1
 | [],i,o,s,q,_,_,h,_=>by
  rw[dW];exact h
 | t::ts,i,o,s,q,ZW,hs,h,hM=>by
  have D:uQ q { q with num:=q.num+1 } 0:=⟨aab _,aab _,aab _,rfl⟩
  have I:aD (t::ts)=ai t+aD ts:=rfl
  have A:pq (if k=16/\i=2 then B else s) { q with num:=q.num+1 }:=by
   split
   ·exact ZW.mono D
   ·exact hs.mono D
  obtain⟨C,-,F⟩:=Es G mk t o (if k=16/\i=2 then B else s) { q with num:=q.num+1 };have H:=C.Pe;have E:({ q with num:=q.num+1 }:RW).ds=q.ds:=rfl;rw[E]at H;rw[dW];refine Qu hG mk k B ts (i+1) o _ _ ((ZW.mono D).mono C) ?_ (UM hG mk t o _ { q with num:=q.num+1 } A h (by rw[E];omega)) (by omega);split
  ·exact F A
  ·exact A.mono C
end
theorem Lf{A:List Dc}{d e:Dc}(h:e∈yP A d):e∈A\/e=d:=by
 unfold yP at h;split at h
 ·exact .inl h
 ·rcases List.mem_append.1 h with h|h
  ·exact .inl h
  ·exact .inr (List.mem_singleton.1 h)
theorem Jw:∀(ts:List ae) (i:Nat) (o:Int) (A:List Dc),∀d∈iy ts i o A,d∈A\/((i:Int)<=d.node/\d.node<((i+ts.length:Nat):Int))
 | [],i,o,A,d,h=>.inl (by rw[iy]at h;exact h)
 | t::ts,i,o,A,d,h=>by
  rw[iy]at h;have C:(t::ts).length=ts.length+1:=rfl;rcases Jw ts _ _ _ d h with B|B
  ·have D:d∈A\/d.node=(i:Int):=by
    split at B
    ·exact(Lf B).imp_right fun e=>by rw[e]
    ·split at B
     ·exact(Lf B).imp_right fun e=>by rw[e]
     ·split at B
      ·exact(Lf B).imp_right fun e=>by rw[e]
      ·exact .inl B
   exact D.imp_right fun e=>by rw[e,C];omega
  ·exact .inr (by rw[C];omega)
end Go.Proofs.YtoepemlnlpamlaaGreat
