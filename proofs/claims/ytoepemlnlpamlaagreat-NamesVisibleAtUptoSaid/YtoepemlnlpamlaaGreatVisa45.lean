/- The law NamesVisibleAt holds where what it reads is of bulk at most 1048576: it returns true, and its arguments read as before. Part 45: FreR Small LawV Row. -/
import Derived.Test.YtoepemlnlpamlaaGreatRows
import Derived.ProofKit
import Derived.Below
import Derived.ChangeSame
import Derived.Lib.SmallJoins
import Derived.Test.YtoepemlnlpamlaaGreatVisa23
import Derived.Test.YtoepemlnlpamlaaGreatVisa32
import Derived.Test.YtoepemlnlpamlaaGreatVisa33
import Derived.Test.YtoepemlnlpamlaaGreatVisa39
import Derived.Test.YtoepemlnlpamlaaGreatVisa41
import Derived.Test.YtoepemlnlpamlaaGreatVisa43
import Derived.Test.YtoepemlnlpamlaaGreatVisa44
set_option maxRecDepth 100000
set_option maxHeartbeats 4000000
namespace Go.Proofs.YtoepemlnlpamlaaGreat
open Go.RowKit
def mZ(w:World)(ub:Option Nat)(A:Option Addr)(s:List ByteArray):Prop:=
 ∀(i:Nat) (x:ByteArray),s[i]? =some x->∃b off cs,A=some ⟨b,off,none⟩/\ub≠some b/\w.heap[b]? =some (.cells cs 9 (0,0))/\w.cell? ⟨b,off+i,none⟩=some (.string x)
def ob(A:Option Addr):Option Nat:=A.map (·.block)
theorem vL(A:Option Addr)(n c:Nat):(Value.slice A n c).ownBlock=ob A:=DY A n c
theorem QI(s:List ByteArray):s.flatMap bN=s.map Value.string:=by
 induction s with
 | nil=>rfl
 | cons a l ih=>rw[List.flatMap_cons,ih];rfl
section
variable {w w':World}{ub:Option Nat}{A:Option Addr}{s:List ByteArray}
theorem mZ.step(h:mZ w ub A s)(M:aF (fun g=>ub=some g) w w'){v:Option Nat}(N:∀g,v=some g->ub=some g\/w.heap.size<=g):mZ w' v A s:=fun i x L=>by
 obtain⟨b,D,E,J,F,K,G⟩:=h i x L;have C:aj w b 9 E:=K;have B:=C.since M F;refine⟨b,D,E,J,fun e=>?_,B,by rw[B.cell];rw[C.cell]at G;exact G⟩;rcases N b e with I|I
 ·exact F I
 ·have:=C.lt
  omega
theorem mZ.below(h:mZ w ub A s)(B:Below w.heap.size w w'):mZ w' ub A s:=h.step ((aF.refl _ w).below B) fun _ h=>.inl h
theorem mZ.news(h:mZ w ub A s):∀j u,(s.flatMap bN)[j]? =some u->∃a,A=some a/\w.cell? (a.add j)=some u:=fun j u B=>by
 rw[QI,List.getElem?_map,Option.map_eq_some_iff]at B;obtain⟨x,E,rfl⟩:=B;obtain⟨b,F,G,C,-,-,D⟩:=h j x E;exact⟨_,C,by simpa [Addr.add_lit] using D⟩
theorem mZ.rowAt(h:mZ w ub A s):bU 1 bN w w.heap.size A s:=by
 intro k x J;obtain⟨b,C,D,E,K,F,G⟩:=h k x J;have I:aj w b 9 D:=F;refine⟨b,C,E,I.lt,fun j v B=>?_⟩
 match j,B with
 | 0,B=>
  have:v= .string x:=by simpa [bN] using B.symm
  rw[this,Nat.mul_one,Nat.add_zero];exact G
 | j+1,B=>simp[bN]at B
theorem mZ.DZ{base n c:Nat}(h:aK w base 9 1 (.slice A n c) n (s.flatMap bN))(C:∀g,(Value.slice A n c).ownBlock=some g->ub≠some g):mZ w ub A s:=by
 intro i x E;have L:s.length=n:=by have:=h.1;rw[Bo]at this;omega
 have J:=(aah.1 E).1;obtain⟨g,D,F,K,-,-,-,-,I⟩:=h.form (by omega);cases K
 obtain⟨G,B⟩:=h.typed (g:=g) rfl;exact⟨g,D,G,rfl,C g rfl,B,I i _ (by rw[QI,List.getElem?_map,E];rfl)⟩
end
theorem freeW_len(t:ae)(C B:List ByteArray):(xX t C B).length<=B.length+ai t:=by
 rw[AL t [C] C B (fun y=>by simp)];exact tO _ _ _
def FrC(B lo:Nat)(t:ae):Prop:=
 ∀(kn out:List ByteArray) (w:World) (A1:Option Addr) (n1 c1:Nat) (A2:Option Addr) (n2 c2:Nat) (At:Option Addr) (ct:Nat),mZ w (ob A2) A1 kn->kn.length=n1->aK w lo 9 1 (.slice A2 n2 c2) n2 (out.flatMap bN)->out.length=n2->aJ w B At 0 t.kids->kn.length+ai t<=1000000->out.length+ai t<=1000000->lo<=w.heap.size ->
  Calls Tryz.prog 49 #[aZ t At ct,.slice A1 n1 c1,.slice A2 n2 c2] w fun e w'=> ∃A3 n3 c3,e= .returned (.slice A3 n3 c3)/\(xX t kn out).length=n3/\aK w' lo 9 1 (.slice A3 n3 c3) n3 ((xX t kn out).flatMap bN)/\aF (fun g=>ob A2=some g) w w'/\(∀g,ob A3=some g->ob A2=some g\/w.heap.size<=g)
theorem WL(B lo:Nat)(hB:B<=lo)(k:Int)(x:ByteArray)(a z:Int)(D:List ae)(hih:∀u∈D,FrC B lo u):FrC B lo (.node k x a z D):=by
 intro kn O w A1 n1 c1 Z n2 c2 At ct hR hn1 hO hn2 hk V f hlo;obtain⟨i0,hi0,hz0,hz1,hz2⟩:=info_parts Ga;obtain⟨r,hnk⟩:∃q,D.length=q:=⟨_,rfl⟩
 have IG:aZ (.node k x a z D) At ct= .agg #[.int .i64 k,.string x,.int .i64 a,.int .i64 z,.slice At r ct]:=by rw[<- hnk];rfl
 rw[IG,xX];obtain⟨ka,hka⟩:∃q,kJ kn x=q:=⟨_,rfl⟩
 obtain⟨kb,hkb⟩:∃q,kJ O x=q:=⟨_,rfl⟩
 obtain⟨bb,hbb⟩:∃q,(decide (k=20)&& !ka&& !kb)=q:=⟨_,rfl⟩
 have ho1:(if k=20/\kn.contains x=false/\O.contains x=false then O++[x] else O)=if bb=true then O++[x] else O:=by
  rw[<- hbb,<- hka,<- hkb,<- zQ,<- zQ];simp[and_assoc]
 rw[ho1];obtain⟨O1,vo⟩:∃q,(if bb=true then O++[x] else O)=q:=⟨_,rfl⟩
 rw[vo];obtain⟨FIN,KT⟩:∃q,vN k x D 0 kn O1=q:=⟨_,rfl⟩
 rw[KT];rw[ai]at V f
 have hol:O1.length+aD D<=1000000:=by
  rw[<- vo];split
  ·simp;omega
  ·omega
 have xL:r<=1000000:=by have:=jO D;omega
 have hn1b:n1<=1000000:=by omega
 have hn2b:n2<=1000000:=by omega
 have HK:=kH hk;have fE:=kH hih;have fK:=kH hnk;have VS:=kH hn1;have vB:=kH hn2;have Py:=kH vo;have HFI:=kH KT;have Pz:=kH hol;have HKL:Hid (kn.length+1+aD D<=1000000):=kH (by omega);have nU:=kH hbb;have yz:Hid (B<=lo/\lo<=w.heap.size):=kH ⟨hB,hlo⟩;have HHA:Hid (kJ kn x=ka/\kJ O x=kb):=kH ⟨hka,hkb⟩;have HR:=kH hR;have HO:=kH hO;clear hk hih hnk hn1 hn2 vo KT hol hbb hlo hB hka hkb hR hO IG ho1 V f;go_in
 go_upto_region 1 with fail
 generalize hW1:w.alloc (.cells #[.int .i64 k,.string x,.int .i64 a,.int .i64 z,.slice At r ct] 24)=W1
 have V:Below w.heap.size w W1:=by rw[<- hW1];exact ag _ _
 have l:aj W1 w.heap.size 24 #[.int .i64 k,.string x,.int .i64 a,.int .i64 z,.slice At r ct]:=by rw[<- hW1];exact aj.new w _ _
 have HB1:=kH V;have HT1:=kH l;have HR1:=kH (HR.out.below V);have vP:=kH (HO.out.below V fun g F=>(HO.out.lt g F).2);clear hW1 V;have p0:=l.cell 0;have p1:=l.cell 1;have lp:=l.lt;go_cut [26] (fun s26 wx=>s26= .bool bb/\Hid (Below W1.heap.size W1 wx))
 case first=>
  by_cases h20:k=20
  ·subst h20
   have KN:bb=(!ka&& !kb):=by rw[<- nU.out];simp
   subst KN;clear l;go_wp2_with fail
   refine(ve A1 n1 c1 kn x W1 HR1.out.rowAt VS.out hn1b).mono ?_;rintro e w2 ⟨rfl,f⟩;rw[HHA.out.1];have mV:=HT1.out.below f HT1.out.lt;have q1:=mV.cell 1;have lq:=mV.lt;have S:=kH f;clear mV f p0 p1 lp
   cases ka with
   | true=>
    go_wp2_with fail
    go_meet
    exact⟨rfl,S⟩
   | false=>
    go_wp2_with fail
    refine(ve Z n2 c2 O x w2 ((vP.out.below S.out fun g F=>(vP.out.lt g F).2).rowAt rfl rfl (fun _ _=>rfl) vB.out) vB.out hn2b).mono ?_;rintro e c ⟨rfl,hb3⟩;rw[HHA.out.2];have HB3:Hid (Below W1.heap.size W1 c):=kH (S.out.trans (hb3.mono S.out.size));clear hb3 q1 lq
    cases kb with
    | true=>
     go_wp2_with fail
     go_meet
     exact⟨rfl,HB3⟩
    | false=>
     go_wp2_with fail
     go_meet
     exact⟨rfl,HB3⟩
  ·have KN:bb=false:=by rw[<- nU.out];simp[h20]
   have EO:(k==20)=false:=by simpa using h20
   subst KN;go_wp2_with fail
   go_meet
   exact⟨rfl,kH (Below.refl _ _)⟩
 case rest=>
  obtain⟨rfl,Uc⟩:=hcut;obtain⟨w2,rfl⟩:∃W,W=wc:=⟨_,rfl⟩
  have mV:=HT1.out.below Uc.out HT1.out.lt;have HT2:=kH mV;have HR2:=kH (HR1.out.below Uc.out);have r9:=kH (vP.out.below Uc.out fun g F=>(vP.out.lt g F).2);have S:Hid (Below w.heap.size w w2):=kH (HB1.out.trans (Uc.out.mono HB1.out.size));clear l p0 p1 lp;have p1:=mV.cell 1;have lp:=mV.lt;clear mV;go_upto_if 26 with fail
  go_cut [2] (fun s2 wx=> ∃(A3:Option Addr) (n3 c3:Nat),s2= .slice A3 n3 c3/\n3<=1000000/\Hid (O1.length=n3/\aK wx lo 9 1 (.slice A3 n3 c3) n3 (O1.flatMap bN)/\aF (fun g=>ob Z=some g) w2 wx/\∀g,ob A3=some g->ob Z=some g\/w2.heap.size<=g))
  case first=>
   cases bb with
   | false=>
    go_wp2_with fail
    go_meet
    exact⟨Z,n2,c2,rfl,hn2b,kH ⟨by rw[<- Py.out];exact vB.out,by rw[<- Py.out];exact r9.out,aF.refl _ _,fun g F=>.inl F⟩⟩
   | true=>
    go_wp2_with (at_builtin;go_must (refine di _ rfl (.tmp 27) (.tmp 30) _ rfl lo 9 i0 _ 1 16 Tryz.underlying41 hi0 hz0 hz1 hz2 rfl (.slice Z n2 c2) n2 (O.flatMap bN) rfl (r9.out.alloc _) ⟨_,0,none⟩ 1 1 [.string x] rfl rfl (wF _ _ _ (by go_simp)) (by simp[Value.oneCell']) (by simp only[maxLen];omega) (by omega) (by have:=yz.out.2;have:=S.out.size;simp;omega) ?_);intro vn w6 C N hat;obtain⟨A6,c6,nC,-,-⟩:=C.shape;subst nC;have y:=kH C;have qy:=kH N;have HAT:=kH hat;clear C N hat)
    go_meet
    refine⟨A6,n2+1,c6,rfl,by have:=Pz.out;rw[<- Py.out]at this;simp at this;have:=vB.out;omega,kH ⟨by rw[<- Py.out];simp;exact vB.out,by rw[<- Py.out];simp only[if_true];rw[List.flatMap_append];exact y.out,?_,?_⟩⟩
    ·exact(((aF.refl _ w2).alloc _).grown qy.out fun g F=>.inl (by rw[<- F];exact(vL _ _ _).symm))
    ·intro g F
     have h1:(Value.slice A6 (n2+1) c6).ownBlock=some g:=by rw[<- F];exact vL _ _ _
     rcases HAT.out with h2|h2
     ·exact .inl (by rw[<- vL Z n2 c2,<- h2];exact h1)
     ·right
      rw[h1]at h2;have:g=w2.heap.size+1:=by simpa using h2
      omega
  case rest=>
   obtain⟨A3,n3,c3,rfl,hn3b,H3⟩:=hcut;obtain⟨c,rfl⟩:∃W,W=wc:=⟨_,rfl⟩
   obtain⟨h3n,h3o,h3s,h3b⟩:=H3.out;have jN:=HT2.out.since h3s (by rw[<- vL Z n2 c2];exact r9.out.cB HT2.out (by decide));have HT3:=kH jN;have HR3:Hid (mZ c (ob A3) A1 kn):=kH (HR2.out.step h3s h3b);clear p1 lp;obtain⟨W4,kS⟩:∃z,c.alloc (.cells #[] 9)=z:=⟨_,rfl⟩
   have hb4:Below c.heap.size c W4:=by rw[<- kS];exact ag _ _
   have hO4:aK W4 c.heap.size 9 1 (.slice (some ⟨c.heap.size,0,none⟩) 0 0) 0 []:=by
    rw[<- kS];exact aK.block (aab _) (aj.new c _ _) (Nat.zero_le _) rfl
   have oN:=kH hb4;have HO4:=kH hO4;clear hb4 hO4 jN h3n h3o h3s h3b;go_wp2_with (first|rw[kS]|(at_builtin;go_must (refine Cn _ rfl (.tmp 32) (.tmp 33) _ _ rfl c.heap.size 9 i0 _ 1 16 Tryz.underlying41 Tryz.underlying41 hi0 hz0 hz1 hz2 rfl (by omega) (.slice (some ⟨c.heap.size,0,none⟩) 0 0) 0 [] rfl HO4.out A1 n1 c1 (kn.flatMap bN) rfl (by rw[Bo,VS.out];omega) (HR3.out.below oN.out).news QH (by simp only[maxLen];omega) (by omega) oN.out.size ?_);intro v5 w5 C N hat;rw[Nat.zero_add,List.nil_append]at C;obtain⟨A5,c5,hv5,hnc5,-⟩:=C.shape;subst hv5;have hb5:Below c.heap.size c w5:=oN.out.trans (rR N oN.out.size (fun k hk=>by cases hk;exact aab _));have y:=kH C;have gG:=kH hb5;clear C N hat hb5 kS hnc5))
   have eZ:mZ w5 (ob A3) A5 kn:=mZ.DZ y.out fun g F e=>by
    have h1:=(y.out.lt g F).1;have h2:=(H3.out.2.1.lt g (by rw[vL];exact e)).2;omega
   have HT5:=kH (HT3.out.below gG.out HT3.out.lt);have Em:=kH (H3.out.2.1.below gG.out fun g F=>(H3.out.2.1.lt g F).2);have HR5:=kH eZ;have HS5:Hid (aF (fun g=>ob Z=some g) w w5):=kH ((((aF.refl _ w).below S.out).trans H3.out.2.2.1).below gG.out);have HA3:Hid (∀g,ob A3=some g->ob Z=some g\/w.heap.size<=g):=kH fun g F=>(H3.out.2.2.2 g F).imp id fun h=>aac S.out.size h
   have jA:Hid (O1.length=n3):=kH H3.out.1;have HZ5:Hid (w.heap.size<=w5.heap.size):=kH HS5.out.size;clear eZ
   go_loopg [2,7,8,9] r (fun gk s2 s7 s8 _ wr=> ∃(i:Nat) (n:Option Addr) (m2 d2:Nat) (E:List ByteArray) (b:Option Addr) (t c7:Nat) (R:List ByteArray),s8= .int .i64 (i:Int)/\i+gk=r/\s2= .slice n m2 d2/\s7= .slice b t c7 /\
    Hid (vN k x (D.drop i) i R E=FIN/\E.length=m2/\R.length=t/\E.length+aD (D.drop i)<=1000000/\R.length+1+aD (D.drop i)<=1000000/\aK wr lo 9 1 (.slice n m2 d2) m2 (E.flatMap bN)/\mZ wr (ob n) b R/\aF (fun g=>ob Z=some g) w wr /\
     (∀g,ob n=some g->ob Z=some g\/w.heap.size<=g)/\aj wr w.heap.size 24 #[.int .i64 k,.string x,.int .i64 a,.int .i64 z,.slice At r ct]))
   case atStart=>exact⟨0,A3,n3,c3,O1,A5,n1,c5,kn,rfl,by omega,rfl,rfl,kH ⟨HFI.out,jA.out,VS.out,Pz.out,HKL.out,Em.out,HR5.out,HS5.out,HA3.out,HT5.out⟩⟩
   case round=>
    obtain⟨i,n,m2,d2,E,b,t,c7,R,rfl,hin,rfl,rfl,I⟩:=hrel;obtain⟨l1,l2,l3,l4,l5,l6,l7,l8,l9,l10⟩:=I.out;have q4:=l10.cell 4;have lq:=l10.lt;by_cases hlt:i<r
    ·obtain⟨K,rfl⟩:∃W:World,W=wr:=⟨_,rfl⟩
     obtain⟨gq,rfl⟩:∃q:Nat,q=gk:=⟨_,rfl⟩
     obtain⟨u,hu⟩:∃u,D[i]? =some u:=⟨_,aaf (by rw[fK.out];exact hlt)⟩
     have Y:D.drop i=u::D.drop (i+1):=by
      obtain⟨h1,h2⟩:=aah.1 hu;rw[List.drop_eq_getElem_cons h1,h2]
     have C:∀g,ob Z=some g->B<=g:=fun g F=>aac yz.out.1 (HO.out.lt g (by rw[vL];exact F)).1
     have hbw:Below B w K:=l8.toBelow (aac yz.out.1 yz.out.2) C;have hkr:aJ K B At 0 D:=aJ.below hbw (aab _) _ _ _ HK.out;obtain⟨vals,⟨U,J,hA,hbl,G⟩,hT⟩:=hkr.get i u hu;rw[Nat.zero_add]at G;obtain⟨A',c',jF,hK'⟩:=hT.five;subst hA;subst jF;obtain⟨uk,ux,ua,uz,un,xJ,xI,zX,D9,hun,huv⟩:=dR u A' c';rw[xJ,xI,zX,D9,hun]at G;have hmem:=aan hu;obtain⟨d,hs4⟩:∃q,(if k=16/\i=2 then R++[x] else R)=q:=⟨_,rfl⟩
     obtain⟨k4,hk4⟩:∃q,(if uk=12 then R++[ux] else R)=q:=⟨_,rfl⟩
     obtain⟨o4,ho4⟩:∃q,xX u d E=q:=⟨_,rfl⟩
     rw[Y,vN,hs4,xJ,xI,hk4,ho4]at l1;rw[Y,aD]at l4 l5;have hs4l:d.length<=R.length+1:=by rw[<- hs4];split<;>simp
     have hk4l:k4.length<=R.length+1:=by rw[<- hk4];split<;>simp
     have ho4l:o4.length<=E.length+ai u:=by rw[<- ho4];exact freeW_len u d E
     have hu1:=lN u;obtain⟨cb,hcb⟩:∃q,(decide (k=16)&&decide (i=2))=q:=⟨_,rfl⟩
     have hs4c:d=if cb=true then R++[x] else R:=by rw[<- hs4,<- hcb];simp
     have Q:Hid (vN k x (D.drop (i+1)) (i+1) k4 o4=FIN/\o4.length+aD (D.drop (i+1))<=1000000/\k4.length+1+aD (D.drop (i+1))<=1000000/\d.length+ai u<=1000000/\E.length+ai u<=1000000/\t<=999999):=kH ⟨l1,by omega,by omega,by omega,by omega,by omega⟩;have HM:Hid (u∈D/\aZ u A' c'= .agg #[.int .i64 uk,.string ux,.int .i64 ua,.int .i64 uz,.slice A' un c']/\xX u d E=o4/\aJ K B A' 0 u.kids):=kH ⟨hmem,huv,ho4,hK'⟩;have HKC:Hid (∀W,Below B K W->∀j v,[Value.int .i64 uk,.string ux,.int .i64 ua,.int .i64 uz,.slice A' un c'][j]? =some v->W.cell? ⟨U,J+i*5+j,none⟩=some v):=kH fun W hW j v hj=>(hW.cell (p:=⟨U,_,none⟩) hbl).trans (G j v hj)
     have TQ:Hid (∀g,ob n=some g->B<=g):=kH fun g F=>aac yz.out.1 (l6.lt g (by rw[vL];exact F)).1
     have zJ:=kH hcb;have TN:=kH hs4c;have CU:=kH hk4;have HZ:Hid (B<=K.heap.size):=kH (by have:=yz.out;have:=l8.size;omega);have Sj:(i:Int)<(r:Int):=by omega
     have hi0:¬((i:Int)<0):=by omega
     have hwi:IntKind.i64.wrap ((i:Int)+1)=(i:Int)+1:=IntWalk.i64_in _ (by omega);clear hu Y C hbw hkr G hT hK' xJ xI zX D9 hun huv hmem hs4 hk4 ho4 hs4l hk4l ho4l hu1 hcb hs4c hbl l1 l2 l3 l4 l5 l6 l7 l8 l9 l10;go_upto_region 8 with fail
     have q0:=I.out.2.2.2.2.2.2.2.2.2.cell 0;go_cut [49] (fun s49 wx=>s49= .bool cb/\wx=K)
     case first=>
      by_cases hc1:k=16
      ·by_cases hc2:i=2
       ·have hc:cb=true:=by rw[<- zJ.out];simp[hc1,hc2]
        subst hc;subst hc1;subst hc2;go_wp2_with fail
        go_meet
        exact⟨rfl,rfl⟩
       ·have hc:cb=false:=by rw[<- zJ.out];simp[hc2]
        have Ye:¬(i:Int)=2:=by omega
        have hc2b:((i:Int)==2)=false:=by simpa using Ye
        subst hc;subst hc1;clear hc2;go_wp2_with fail
        go_meet
        exact⟨rfl,rfl⟩
      ·have hc:cb=false:=by rw[<- zJ.out];simp[hc1]
       have hc1b:(k==16)=false:=by simpa using hc1
       subst hc;go_wp2_with fail
       go_meet
       exact⟨rfl,rfl⟩
     case rest=>
      obtain⟨rfl,rfl⟩:=hcut;obtain⟨K,rfl⟩:∃W:World,W=wc:=⟨_,rfl⟩
      clear q0;go_upto_if 49 with fail
      go_cut [9] (fun s9 wx=> ∃(A9:Option Addr) (n9 c9:Nat),s9= .slice A9 n9 c9/\Hid (d.length=n9/\mZ wx (ob n) A9 d/\Below K.heap.size K wx))
      case first=>
       cases cb with
       | false=>
        have T:Hid (d.length=t/\mZ K (ob n) b d/\Below K.heap.size K K):=kH ⟨by rw[TN.out];exact I.out.2.2.1,by rw[TN.out];exact I.out.2.2.2.2.2.2.1,Below.refl _ _⟩;go_wp2_with fail
        go_meet
        exact⟨b,t,c7,rfl,T⟩
       | true=>
        have SN:aj K.drew w.heap.size 24 #[.int .i64 k,.string x,.int .i64 a,.int .i64 z,.slice (some ⟨U,J,none⟩) r ct]:=I.out.2.2.2.2.2.2.2.2.2;have Z0:mZ K.drew (ob n) b R:=I.out.2.2.2.2.2.2.1;have TJ:Hid (∀W,Below K.heap.size K.drew W->W.cell? ⟨w.heap.size,1,none⟩=some (.string x)):=kH fun W hW=>(SN.below hW SN.lt).cell 1
        go_upto_region 9 with fail
        refine FZ (fun w'=>w'.cell? ⟨w.heap.size,1,none⟩=some (.string x)) [] (.soft 1 (.soft 3 (.soft 4 (.fork 0 (.fork 2 (.hard 5 (.hard 6 (.soft 7 .done))) 5 (.hard 2 (.hard 6 (.soft 7 .done)))) 5 (.hard 0 (.hard 2 (.hard 6 (.soft 7 .done)))))))) (by kernel_rfl) (by kernel_rfl) rfl (by kernel_rfl) ?_;have hS0:=TJ.out K.drew (Below.refl _ _)
        iterate 3
         refine Co (by simp only[aak,aaj,aai];rfl) (by rfl) hS0 (by intro w' hs1;go_simp;rfl) ?_;simp only[Act.put,sA,sZ,sC]
        refine Wh (rest:=.soft 7 .done) rfl ⟨rfl,rfl,rfl⟩ rfl ⟨rfl,rfl,rfl⟩ rfl ⟨rfl,rfl,rfl⟩ rfl ⟨rfl,rfl,rfl⟩ (by decide) (by simp) R t I.out.2.2.1 (by have:=Q.out;omega) b c7 x rfl rfl (fun W hW=>(Z0.below hW).news) TJ.out ?_;intro v0 v2 v5 v6 W C M;obtain⟨A6,c6,rfl,-,-⟩:=C.shape
        have Z4:mZ W (ob n) A6 (R++[x]):=mZ.DZ C fun g F e=>by
         have h1:=(C.lt g F).1;have h2:=(I.out.2.2.2.2.2.1.lt g (by rw[vL];exact e)).2;have h3:K.drew.heap.size=K.heap.size:=rfl;omega
        have T:Hid (d.length=t+1/\mZ W (ob n) A6 d/\Below K.heap.size K W):=kH ⟨by rw[TN.out,<- I.out.2.2.1];simp,by rw[TN.out];exact Z4,((Below.refl _ K).drew).trans M⟩;have hS1:=TJ.out W M;refine Co (by simp only[aak,aaj,aai];rfl) (by rfl) hS1 (by intro w' hs1;simp only[Act.put,sA,sZ,sC];go_simp;rfl) ?_;simp only[Act.put,sA,sZ,sC];refine Qn ?_;clear hS0 hS1 C M SN Z0 Z4;go_wp2_with fail
        go_meet
        exact⟨A6,t+1,c6,rfl,T⟩
      case rest=>
       obtain⟨A9,n9,c9,rfl,H9⟩:=hcut;obtain⟨w9,rfl⟩:∃W:World,W=wc:=⟨_,rfl⟩
       have eP:Below B K w9:=H9.out.2.2.mono HZ.out;have nE:=I.out.2.2.2.2.2.2.2.2.2.below H9.out.2.2 I.out.2.2.2.2.2.2.2.2.2.lt;have G:=HKC.out w9 eP;have t0:w9.cell? ⟨U,J+i*5,none⟩=some (.int .i64 uk):=by simpa using G 0 _ rfl
       have t1:w9.cell? ⟨U,J+i*5+1,none⟩=some (.string ux):=by simpa using G 1 _ rfl
       have t2:w9.cell? ⟨U,J+i*5+2,none⟩=some (.int .i64 ua):=by simpa using G 2 _ rfl
       have t3:w9.cell? ⟨U,J+i*5+3,none⟩=some (.int .i64 uz):=by simpa using G 3 _ rfl
       have t4:w9.cell? ⟨U,J+i*5+4,none⟩=some (.slice A' un c'):=by simpa using G 4 _ rfl
       have q4:=nE.cell 4;have X:=fE.out u HM.out.1 d E w9 A9 n9 c9 n m2 d2 A' c' H9.out.2.1 H9.out.1 (I.out.2.2.2.2.2.1.below H9.out.2.2 fun g F=>(I.out.2.2.2.2.2.1.lt g F).2) I.out.2.1 (aJ.below eP (aab _) _ _ _ HM.out.2.2.2) Q.out.2.2.2.1 Q.out.2.2.2.2.1 (by have:=yz.out.2;have:=I.out.2.2.2.2.2.2.2.1.size;have:=H9.out.2.2.size;omega);rw[HM.out.2.1,HM.out.2.2.1]at X;have HC:=kH X;have HT9:=kH nE;clear G X eP nE;go_wp2_with fail
       refine HC.out.mono ?_;rintro e L ⟨lJ,n10,c10,rfl,g1,g2,g3,g4⟩;have hz9:w.heap.size<=w9.heap.size:=aac I.out.2.2.2.2.2.2.2.1.size H9.out.2.2.size;have eU:=I.out.2.2.2.2.2.2.1.below H9.out.2.2;have MN:=I.out.2.2.2.2.2.1.below H9.out.2.2 fun g F=>(I.out.2.2.2.2.2.1.lt g F).2
       have kK:=HT9.out.since g3 (by rw[<- vL n m2 d2];exact MN.cB HT9.out (by decide));have jg:Below B K L:=(H9.out.2.2.mono HZ.out).trans (g3.toBelow (aac HZ.out H9.out.2.2.size) TQ.out);have m:Hid (o4.length=n10/\aK L lo 9 1 (.slice lJ n10 c10) n10 (o4.flatMap bN)/\aF (fun g=>ob Z=some g) w L/\(∀g,ob lJ=some g->ob Z=some g\/w.heap.size<=g)/\mZ L (ob lJ) b R):=kH ⟨g1,g2,(I.out.2.2.2.2.2.2.2.1.below H9.out.2.2).step g3 I.out.2.2.2.2.2.2.2.2.1,fun g F=>(g4 g F).elim (I.out.2.2.2.2.2.2.2.2.1 g) fun h=>.inr (aac hz9 h),eU.step g3 g4⟩;have TK:=kH kK;have YN:=kH jg;have G:=HKC.out L jg;clear g1 g2 g3 g4 hz9 eU MN jg t0 t1 t2 t3 t4 q4 HC;have t0:L.cell? ⟨U,J+i*5,none⟩=some (.int .i64 uk):=by simpa using G 0 _ rfl
       have t1:L.cell? ⟨U,J+i*5+1,none⟩=some (.string ux):=by simpa using G 1 _ rfl
       have q4:=kK.cell 4;have lq:=kK.lt;clear G kK;go_upto_if 71 with fail
       by_cases h12:uk=12
       ·subst h12
        have SN:aj L.drew w.heap.size 24 #[.int .i64 k,.string x,.int .i64 a,.int .i64 z,.slice (some ⟨U,J,none⟩) r ct]:=TK.out;have Z0:mZ L.drew (ob lJ) b R:=m.out.2.2.2.2;have hbd:B<=L.drew.heap.size:=aac HZ.out YN.out.size;have TJ:Hid (∀W,Below L.drew.heap.size L.drew W->W.cell? ⟨w.heap.size,4,none⟩=some (.slice (some ⟨U,J,none⟩) r ct)/\W.cell? ⟨U,J+i*5+1,none⟩=some (.string ux)):=kH fun W hW=>⟨(SN.below hW SN.lt).cell 4,by simpa using HKC.out W ((YN.out.trans ((Below.refl _ L).drew)).trans (hW.mono hbd)) 1 _ rfl⟩
        clear t0 t1 q4 lq;go_upto_region 12 with fail
        refine FZ (fun w'=>w'.cell? ⟨w.heap.size,4,none⟩=some (.slice (some ⟨U,J,none⟩) r ct)/\w'.cell? ⟨U,J+i*5+1,none⟩=some (.string ux)) [] (.soft 1 (.soft 3 (.soft 4 (.soft 5 (.soft 6 (.soft 7 (.soft 8 (.fork 0 (.fork 2 (.hard 9 (.hard 10 (.soft 11 .done))) 9 (.hard 2 (.hard 10 (.soft 11 .done)))) 9 (.hard 0 (.hard 2 (.hard 10 (.soft 11 .done)))))))))))) (by kernel_rfl) (by kernel_rfl) rfl (by kernel_rfl) ?_;have hS0:=TJ.out L.drew (Below.refl _ _)
        iterate 7
         refine Co (by simp only[aak,aaj,aai];rfl) (by rfl) hS0 (by intro w' hSw;obtain⟨hs1,hs2⟩:=hSw;go_simp;rfl) ?_;simp only[Act.put,sA,sZ,sC]
        refine Wh (rest:=.soft 11 .done) rfl ⟨rfl,rfl,rfl⟩ rfl ⟨rfl,rfl,rfl⟩ rfl ⟨rfl,rfl,rfl⟩ rfl ⟨rfl,rfl,rfl⟩ (by decide) (by simp) R t I.out.2.2.1 (by have:=Q.out;omega) b c7 ux rfl rfl (fun W hW=>(Z0.below hW).news) TJ.out ?_;intro v0 v2 v5 v6 W C M;obtain⟨A6,c6,rfl,-,-⟩:=C.shape
        have Z4:mZ W (ob lJ) A6 (R++[ux]):=mZ.DZ C fun g F e=>by
         have h1:=(C.lt g F).1;have h2:=(m.out.2.1.lt g (by rw[vL];exact e)).2;have h3:L.drew.heap.size=L.heap.size:=rfl;omega
        have T:Hid (k4.length=t+1/\mZ W (ob lJ) A6 k4/\Below L.heap.size L W):=kH ⟨by rw[<- CU.out,<- I.out.2.2.1];simp,by rw[<- CU.out];simpa using Z4,((Below.refl _ L).drew).trans M⟩;have hS1:=TJ.out W M;refine Co (by simp only[aak,aaj,aai];rfl) (by rfl) hS1 (by intro w' hs1;simp only[Act.put,sA,sZ,sC];go_simp;rfl) ?_;simp only[Act.put,sA,sZ,sC];refine Qn ?_;clear hS0 hS1 C M SN Z0 Z4 hbd;go_wp2_with fail
        go_roundg (gq - 1)
        case measure=>omega
        case rel=>
         exact⟨i+1,lJ,n10,c10,o4,A6,t+1,c6,k4,by first|rfl|(simp;done),by omega,rfl,rfl,kH ⟨Q.out.1,m.out.1,T.out.1,Q.out.2.1,Q.out.2.2.1,m.out.2.1.below T.out.2.2 fun g F=>(m.out.2.1.lt g F).2,T.out.2.1,m.out.2.2.1.below T.out.2.2,m.out.2.2.2.1,TK.out.below T.out.2.2 TK.out.lt⟩⟩
       ·have oI:(uk==12)=false:=by simpa using h12
        have T:Hid (k4.length=t/\mZ L (ob lJ) b k4/\Below L.heap.size L L):=kH ⟨by rw[<- CU.out,if_neg h12];exact I.out.2.2.1,by rw[<- CU.out,if_neg h12];exact m.out.2.2.2.2,Below.refl _ _⟩;clear h12;go_wp2_with fail
        go_roundg (gq - 1)
        case measure=>omega
        case rel=>
         exact⟨i+1,lJ,n10,c10,o4,b,t,c7,k4,by first|rfl|(simp;done),by omega,rfl,rfl,kH ⟨Q.out.1,m.out.1,T.out.1,Q.out.2.1,Q.out.2.2.1,m.out.2.1.below T.out.2.2 fun g F=>(m.out.2.1.lt g F).2,T.out.2.1,m.out.2.2.1.below T.out.2.2,m.out.2.2.2.1,TK.out.below T.out.2.2 TK.out.lt⟩⟩
    ·have hi:i=r:=by omega
     subst hi;have hnil:D.drop i=[]:=List.drop_eq_nil_of_le (by rw[fK.out];exact aab _);have HE:Hid (E=FIN):=kH (by rw[<- l1,hnil,vN]);clear l1 l2 l3 l4 l5 l6 l7 l8 l9 l10 hnil hlt;go_wp2_with fail
     go_ret
     exact⟨_,_,_,rfl,by rw[<- HE.out];exact I.out.2.1,by rw[<- HE.out];exact I.out.2.2.2.2.2.1,I.out.2.2.2.2.2.2.2.1,I.out.2.2.2.2.2.2.2.2.1⟩
theorem U0(B lo:Nat)(C:B<=lo):∀(n:Nat) (t:ae),ai t<=n->FrC B lo t
 | 0,t,h=>by
  have:=lN t;omega
 | n+1,.node k x a z kids,h=>WL B lo C k x a z kids fun u D=>U0 B lo C n u (by
  have:=AP D;rw[ai]at h
  omega)
theorem Zd(t:ae)(A:Option Addr)(c:Nat)(w:World)(V:ai t<=1000000)(X:aJ w w.heap.size A 0 t.kids):
 Calls Tryz.prog 21 #[aZ t A c] w fun e w'=> ∃S n c,e= .returned (.slice S n c)/\(jd t [] []).length=n/\bU 1 bN w' w'.heap.size S (jd t [] [])/\Below w.heap.size w w':=by
 obtain⟨u,x0,y,m,r,-,-,-,-,-,O⟩:=dR t A c;rw[O];obtain⟨Z,N⟩:∃Z,jd t [] []=Z:=⟨_,rfl⟩
 rw[N];go_in
 go_wp2_with fail
 obtain⟨I,C⟩:∃W,(w.alloc (.cells #[.int .i64 u,.string x0,.int .i64 y,.int .i64 m,.slice A r c] 24)).alloc (.cells #[] 9)=W:=⟨_,rfl⟩
 have E:Below w.heap.size w I:=by
  rw[<- C];exact((Below.refl _ w).alloc (aab _) _).alloc (by simp) _
 rw[C];obtain⟨K,D⟩:∃W,I.alloc (.cells #[] 9)=W:=⟨_,rfl⟩
 have F:Below w.heap.size w K:=by rw[<- D];exact E.alloc E.size _
 have M:aK K w.heap.size 9 1 (.slice (some ⟨I.heap.size,0,none⟩) 0 0) 0 (([]:List ByteArray).flatMap bN):=by
  rw[<- D];exact aK.block (n:=0) (cur:=#[]) E.size (aj.new I _ _) (by simp[maxLen]) rfl
 rw[D];have J:I.heap.size=w.heap.size+2:=by rw[<- C];simp
 rw[J]at M;have B:=U0 w.heap.size w.heap.size (aab _) (ai t) t (aab _) [] [] K (some ⟨w.heap.size+1,0,none⟩) 0 0 (some ⟨w.heap.size+2,0,none⟩) 0 0 A c (fun i x h=>by cases h) rfl M rfl (aJ.below F (aab _) _ _ _ X) (by simpa using V) (by simpa using V) F.size;rw[O,free_same,N]at B;have R:=kH B;have G:=kH F;clear B F M D C E O N X J;refine R.out.mono ?_;rintro e Q ⟨Y,q,l,rfl,L,T,U,-⟩
 have z:Hid (Z.length=q/\bU 1 bN Q Q.heap.size Y Z/\Below w.heap.size w Q):=kH ⟨L,T.rowAt rfl rfl (fun _ _=>rfl) L,G.out.trans (U.toBelow G.out.size fun g v=>by
  have:w.heap.size+2=g:=by simpa [ob] using v
  omega)⟩
 clear L T U R;go_wp2_with fail
 go_ret
 exact⟨_,_,_,rfl,z.out⟩
def DT(t:ae)(m:Nat):Bool:=(bT t).all (fun u=>decide (u.text.size<=60))&&decide (ai t<=m)
theorem all_drop{p:ae->Bool}{ts:List ae}{i:Nat}{u:ae}(D:ts[i]? =some u):(ts.drop i).all p=(p u&&(ts.drop (i+1)).all p):=by
 obtain⟨B,C⟩:=aah.1 D;rw[List.drop_eq_getElem_cons B,C,List.all_cons]
theorem Small_any(t:ae)(A:Option Addr)(c m:Nat)(w:World)(l:ai t<=1000000)(I:t.kids.length<=c)(hk:aJ w w.heap.size A 0 t.kids):
 Calls Tryz.prog 10 #[aZ t A c,.int .i64 (m:Int)] w fun e w'=>e= .returned (.bool (DT t m))/\Below w.heap.size w w':=by
 obtain⟨k0,x0,a0,z0,n0,-,-,-,-,-,jw⟩:=dR t A c;obtain⟨S,E⟩:∃S,w.alloc (.cells #[.int .i64 k0,.string x0,.int .i64 a0,.int .i64 z0,.slice A n0 c] 24)=S:=⟨_,rfl⟩
 have F:Below w.heap.size w S:=by rw[<- E];exact ag _ _
 have M:aj S w.heap.size 24 #[.int .i64 k0,.string x0,.int .i64 a0,.int .i64 z0,.slice A n0 c]:=by rw[<- E];exact aj.new w _ _
 have G:=ED (ai t) t A c S S.heap.size (aab _) (aab _) (by omega) I (aJ.mono F.size _ _ _ (aJ.below F (aab _) _ _ _ hk));have J:=iY t;obtain⟨R,L⟩:∃b,DT t m=b:=⟨_,rfl⟩
 rw[L];unfold DT at L;rw[<- J]at L l;obtain⟨ts,y⟩:∃z,bT t=z:=⟨_,rfl⟩
 rw[y]at G L l;rw[jw]at G⊢;obtain⟨N,q⟩:∃z,ts.length=z:=⟨_,rfl⟩
 rw[q]at L l;have lh:=kH G;have HR:=kH L;have r:=kH q;have T:=kH F;obtain⟨⟨t0,t1,t2,t3,t4⟩,-⟩:=M.five;have lt':=M.lt;clear F M G J y jw I hk q L;go_in
 go_wp2_with (rw[E])
 clear t0 t1 t2 t3 t4 lt' E;refine lh.out.mono ?_;rintro e2 w2 ⟨v2,Q,vals,rfl,Z,K,V,W⟩;rw[r.out]at Z;subst Z;obtain⟨A2,c2,rfl,-,-⟩:=K.shape;have D:Hid (Below w.heap.size w w2):=kH (T.out.trans (W.mono T.out.size));have r9:=kH K;have fU:=kH V;clear K V W lh;go_wp2_with fail
 go_loopg [6] Q (fun gk s6 wr=> ∃(i:Nat),s6= .int .i64 (i:Int)/\i+gk=Q/\Hid (Below w2.heap.size w2 wr/\((ts.drop i).all (fun u=>decide (u.text.size<=60))&&decide (Q<=m))=R))
 case atStart=>exact⟨0,rfl,by omega,kH ⟨Below.refl _ _,HR.out⟩⟩
 case round=>
  obtain⟨i,rfl,Y,v⟩:=hrel;have hib:i<=Q:=by omega
  have qD:=kH Y;clear Y;by_cases j:i<Q
  ·obtain⟨tn,O⟩:∃z,ts[i]? =some z:=⟨_,aaf (by rw[r.out];exact j)⟩
   obtain⟨C,B⟩:=v.out;obtain⟨b,off,Ak,ck,hA,hbl,-,X,-⟩:=Jf (r9.out.below C (fun g hg=>(r9.out.lt g hg).2)) fU.out r.out i tn O;subst hA;rw[all_drop O]at B;obtain⟨x,d⟩:∃z,tn.text=z:=⟨_,rfl⟩
   rw[d]at B;have z1:wr.cell? ⟨b,off+i*5+1,none⟩=some (.string x):=by rw[<- d];exact X 1 _ rfl
   have Sj:(i:Int)<(Q:Int):=by omega
   have hi00:¬((i:Int)<0):=by omega
   have hw2:IntKind.i64.wrap ((i:Int)+1)=(i:Int)+1:=IntWalk.i64_in _ (by omega);clear O X d v;by_cases h60:60<x.size
   ·have U:(60:Int)<(x.size:Int):=by omega
    have f:R=false:=by rw[<- B,decide_eq_false (p:=x.size<=60) (by omega)];rfl
    subst f;clear B;go_wp2_with fail
    go_ret
    exact⟨rfl,D.out.trans (C.mono D.out.size)⟩
   ·have U:¬(60:Int)<(x.size:Int):=by omega
    rw[decide_eq_true (p:=x.size<=60) (by omega),Bool.true_and]at B;have n:=kH B;clear B;go_wp2_with fail
    go_roundg (gk - 1)
    case measure=>have:=qD.out;omega
    case rel=>exact⟨i+1,by simp,by have:=qD.out;omega,kH ⟨C,n.out⟩⟩
  ·have k:i=Q:=by omega
   subst k;obtain⟨C,B⟩:=v.out;rw[List.drop_of_length_le (by rw[r.out];exact aab _),List.all_nil,Bool.true_and]at B;have n:=kH B;clear B v;go_wp2_with fail
   go_ret
   exact⟨Bu (by rw[<- n.out];try simp),D.out.trans (C.mono D.out.size)⟩
def FRes(t:ae)(w:World)(e:Ending)(w':World):Prop:=
 ∃VA n c,e= .returned (.slice VA n c)/\(jd t [] []).length=n/\bU 1 bN w' w'.heap.size VA (jd t [] [])/\Below w.heap.size w w'
theorem NP(t:ae)(A:Option Addr)(c:Nat)(num:Int)(w:World)(Y:ai t<=1000000)(B:t.kids.length<=c)(hk:aJ w w.heap.size A 0 t.kids):
 Calls Tryz.prog 4 #[aZ t A c,.int .i64 num] w fun e w'=>e= .returned (.bool true)/\Below w.heap.size w w':=by
 have C:∀W,Below w.heap.size w W->aJ W W.heap.size A 0 t.kids:=fun W D=>aJ.mono D.size _ _ _ (aJ.below D (aab _) _ _ _ hk)
 have XP:∀W,Below w.heap.size w W->Calls Tryz.prog 10 #[aZ t A c,.int .i64 200] W _:=fun W D=>Small_any t A c 200 W Y B (C W D)
 have z:∀W,Below w.heap.size w W->Calls Tryz.prog 17 #[aZ t A c,.int .i64 num] W (fun e w'=>(eD t num).length<=9223372036854775807/\Ho t num W e w'):=fun W D=>(JE t A c num W Y B (C W D)).mono fun e w' ⟨v,he,k,M⟩=>by
  obtain⟨VA,vc,hv,h1,h2⟩:=k.shape;subst hv;exact⟨aac h1 h2,VA,_,vc,he,rfl,k.rowAt rfl (Ky _) (fun _ _=>rfl) rfl,M⟩
 have y:ai t<=200->∀W,Below w.heap.size w W->Calls Tryz.prog 18 #[aZ t A c,.int .i64 num] W (Ho t num W):=fun h2 W D=>Q0 t A c num W (by omega) B (C W D)
 have u:∀W,Below w.heap.size w W->Calls Tryz.prog 20 #[aZ t A c] W (FRes t W):=fun W D=>(Ud t A c W Y (C W D)).mono fun e w' ⟨v,he,k,M⟩=>by
  obtain⟨VA,vc,hv,-,-⟩:=k.shape;subst hv;exact⟨VA,_,vc,he,rfl,k.rowAt rfl rfl (fun _ _=>rfl) rfl,M⟩
 have x:∀W,Below w.heap.size w W->Calls Tryz.prog 21 #[aZ t A c] W (FRes t W):=fun W D=>Zd t A c W Y (C W D)
 have X:DT t 200=true->ai t<=200:=fun h=>by
  unfold DT at h;rw[aad]at h;exact of_decide_eq_true h.2
 have S:(jd t [] []).length<=1000000:=aac (tO t [] []) (by simpa using Y);obtain⟨sb,hsb⟩:∃b,DT t 200=b:=⟨_,rfl⟩
 obtain⟨k0,x0,a0,z0,n0,-,-,-,-,-,jw⟩:=dR t A c;rw[jw]at XP z y u x⊢;rw[hsb]at XP X;unfold Ho at z y;unfold FRes at u x;obtain⟨V,hV⟩:∃q,eD t num=q:=⟨_,rfl⟩
 obtain⟨F,hF⟩:∃q,jd t [] []=q:=⟨_,rfl⟩
 rw[hV]at z y;rw[hF]at u x S;obtain⟨nv,jw⟩:∃q,V.length=q:=⟨_,rfl⟩
 obtain⟨nf,T⟩:∃q,F.length=q:=⟨_,rfl⟩
 obtain⟨r,J⟩:∃r,w.alloc (.cells #[.int .i64 k0,.string x0,.int .i64 a0,.int .i64 z0,.slice A n0 c] 24)=r:=⟨_,rfl⟩
 have R:Below w.heap.size w r:=by rw[<- J];exact ag _ _
 have FH:aj r w.heap.size 24 #[.int .i64 k0,.string x0,.int .i64 a0,.int .i64 z0,.slice A n0 c]:=by rw[<- J];exact aj.new _ _ _
 have qm:=kH (XP r R);have HVI:=kH z;have HRV:=kH y;have HFR:=kH u;have HRF:=kH x;have Z:=kH X;have L:Hid (V.length=nv/\F.length=nf/\nf<=1000000):=kH ⟨jw,T,by rw[<- T];exact S⟩;have K:=kH awake_any;have mJ:=kH R;have En:=kH FH;obtain⟨⟨m0,m1,m2,m3,m4⟩,-⟩:=FH.five;have lm:=FH.lt;clear XP z y u x X hsb hV hF jw T S R FH hk B Y C;go_in
 go_wp2_with (rw[J])
 clear m0 m1 m2 m3 m4 lm J;refine qm.out.mono ?_;rintro e2 G ⟨rfl,N⟩;have I:Hid (Below w.heap.size w G):=kH (mJ.out.trans (N.mono mJ.out.size));have tY:=En.out.below N En.out.lt;have vB:=kH tY;clear N En qm
 cases sb with
 | false=>
  clear tY;go_wp2_with fail
  refine(K.out _).mono ?_;rintro e3 w3 ⟨rfl,E⟩;go_wp2_with fail
  go_ret
  exact⟨rfl,I.out.trans (E.mono I.out.size)⟩
 | true=>
  have vS:=kH (Z.out rfl);clear Z;obtain⟨⟨m0,m1,m2,m3,m4⟩,-⟩:=tY.five;have lm:=tY.lt;have jy:∀W,Below G.heap.size G.drew W->W.cell? ⟨w.heap.size,0,none⟩=some (.int .i64 k0)/\W.cell? ⟨w.heap.size,1,none⟩=some (.string x0)/\W.cell? ⟨w.heap.size,2,none⟩=some (.int .i64 a0)/\W.cell? ⟨w.heap.size,3,none⟩=some (.int .i64 z0)/\W.cell? ⟨w.heap.size,4,none⟩=some (.slice A n0 c):=fun W hW=>(vB.out.below (((Below.refl _ G).drew).trans hW) vB.out.lt).five.1
  have eY:=kH jy;have n:Below G.heap.size G.drew G.drew:=Below.refl _ _;have vD:Hid (∀W,Below G.heap.size G.drew W->Below w.heap.size w W):=kH fun W hW=>I.out.trans ((((Below.refl _ G).drew).trans hW).mono I.out.size)
  clear tY jy;go_wp2_with fail
  go_region_held3 (fun W=>W.cell? ⟨w.heap.size,0,none⟩=some (.int .i64 k0)/\W.cell? ⟨w.heap.size,1,none⟩=some (.string x0)/\W.cell? ⟨w.heap.size,2,none⟩=some (.int .i64 a0)/\W.cell? ⟨w.heap.size,3,none⟩=some (.int .i64 z0)/\W.cell? ⟨w.heap.size,4,none⟩=some (.slice A n0 c)) (first|exact eY.out _ (by assumption)) ((first|(go_at_call 17;refine(HVI.out _ (vD.out _ n)).mono ?_;rintro e3 w3 ⟨l,A3,n3,c3,rfl,yw,hr3,j⟩;have E:=n.trans j;have H3:=kH (And.intro l (And.intro yw hr3));clear l yw hr3 j)|(go_at_call 18;refine(HRV.out vS.out _ (vD.out _ E)).mono ?_;rintro e4 w4 ⟨A4,n4,c4,rfl,Sb,hr4,U⟩;have m:=E.trans (U.mono E.size);have H4:=kH (And.intro Sb hr4);have Q4:=kH U;clear Sb hr4 U)|(go_at_call 16;refine(TC A3 A4 n3 n4 c3 c4 V V _ ((H3.out.2.2.below Q4.out (aab _)).mono Q4.out.size) H4.out.2 H3.out.2.1 H4.out.1 (by rw[<- H3.out.2.1];exact H3.out.1)).mono ?_;rintro e5 w5 ⟨rfl,Jt⟩;rw[decide_eq_true (rfl:V=V)];have O:=m.trans (Jt.mono m.size);clear Jt)|(go_at_call 20;refine(HFR.out _ (vD.out _ O)).mono ?_;rintro e6 w6 ⟨A6,n6,c6,rfl,FC,zq,g⟩;have Q:=O.trans (g.mono O.size);have H6:=kH (And.intro FC zq);clear FC zq g)|(go_at_call 21;refine(HRF.out _ (vD.out _ Q)).mono ?_;rintro e7 w7 ⟨A7,n7,c7,rfl,uq,hr7,vM⟩;have dF:=Q.trans (vM.mono Q.size);have H7:=kH (And.intro uq hr7);have Q7:=kH vM;clear uq hr7 vM)|(go_at_call 19;refine(Pp A6 A7 n6 n7 c6 c7 F F _ ((H6.out.2.below Q7.out (aab _)).mono Q7.out.size) H7.out.2 H6.out.1 H7.out.1 (by rw[<- H6.out.1,L.out.2.1];exact L.out.2.2)).mono ?_;rintro e8 w8 ⟨rfl,f⟩;rw[decide_eq_true (rfl:F=F)];have dU:=dF.trans (f.mono dF.size);clear f)|(go_at_call 11;refine(K.out _).mono ?_;rintro e9 w9 ⟨rfl,d⟩;have eP:=dU.trans (d.mono dU.size);clear d)))
  go_wp2_with fail
  go_ret
  exact⟨rfl,vD.out _ eP⟩
open Go.ChangeShapes Go.WideShapes Go.ChangeAt
theorem Tryz.own:ownKnob Tryz.prog.godebug=none:=by kernel_rfl
theorem Tryz.laidOut:laidOutB Tryz.prog=true:=by kernel_rfl
section
variable {H:Type}{enc:TypeId×Value->H}{P:Program}
theorem PN(N:laidOutB P=true){W J:World}(L:Below W.heap.size W J)(K:Nat->Bool):∀{ts:List TypeId}{G:List Value}{ds:List (DataW H)}{D:List MemPlace},
 ts.all (fun t=>P.readableRec t&&decide (t<P.types.size))=true->DataW.TrodAll enc P W 0 (fun _=>true) true ts G ds D->(∀x∈D,x.block<W.heap.size)->(∀x∈D,K x.block=true) ->
 DataW.TrodAll enc P J 0 K true ts G ds D:=by
 intro ts
 induction ts with
 | nil=>
  intro G ds D _ h _ _;cases G<;>cases ds<;>simp[DataW.TrodAll]at h⊢
  exact h
 | cons t ts ih=>
  intro G ds D I h E F;obtain⟨v,O,d,ds',p,q,rfl,rfl,rfl,M,B⟩:=trodAll_cons h;rw[List.all_cons,aad,aad]at I;refine⟨p,q,?_,ih I.2 B (fun x C=>E x (by simp[C])) (fun x C=>F x (by simp[C])),rfl⟩;exact WideElems.Trod_stays N I.1.1 (of_decide_eq_true I.1.2) M (fun x C=>L.same (E x (by simp[C]))) (fun x C=>F x (by simp[C]))
theorem law_post(d:laidOutB P=true){f:Func}{s:ChangeSpec}{C K D J:Bool}{W R:World}{args:Array Value}{ds O:List (DataW H)}{B:List MemPlace}{l:TypeId}
 (Y:DataW.Whole enc P f.params.toList s.vars C W args.toList ds O B) (m:s.vars=[])
 (N:f.params.toList.all (fun t=>P.readableRec t&&decide (t<P.types.size))=true)
 (L:s.fn H (ds++O)= { results:=[.lit (.bool true)],args:=ds }) (n:f.resultTypes= #[l]) (V:P.underlying l=some .bool) (z:Below W.heap.size W R):
 s.post enc P f C K D J W args (.bool true) R:=by
 have M:∀p∈B,p.block<W.heap.size:=fun p y=>Y.lt p y
 have Z:=Y;obtain⟨p,q,k,u,U,hz,c⟩:=Y;rw[m]at u;obtain⟨g,hq⟩:=trodVars_none u;subst hq;rw[List.append_nil]at U;subst U
 have I:∀(b:Nat) (G:Nat->Bool) (r:Bool),DataW.TrodAll enc P R b G r f.resultTypes.toList ((Value.bool true).resultList f.resultTypes.size) (s.fn H (ds++O)).results []:=fun b G r=>by
  rw[L,n];exact trodAll_mk1 (shut_bool V true)
 have E:∀G:Nat->Bool,(∀x∈B,G x.block=true)->DataW.TrodAll enc P R 0 G true f.params.toList args.toList (s.fn H (ds++O)).args B:=fun G v=>by
  rw[L];exact PN d z G N k M v
 have F:∀G:Nat->Bool,DataW.TrodVars enc P R G s.vars (s.fn H (ds++O)).vars []:=fun G=>by
  rw[L,m];rfl
 have T:∀x∈B,(fun b=>decide (b<W.heap.size)) x.block=true:=fun x Q=>by simpa using M x Q
 refine⟨ds,O,B,[],B,[],Z,I _ _ _,E _ T,F _,World.keptBut_mono (fun x Q=>⟨Q,Or.inr (by simpa using Q)⟩) (z.frame (· ∈B)),fun _=>?_⟩;refine⟨ok_one n rfl (okWide_bool_mk V true),_,_,([]++B)++[],⟨[]++B,[],trodAll_append (E _ (fun _ _=>rfl)) (I _ _ _),F _,rfl,?_,?_⟩,?_⟩
 ·intro b X y
  have S:MemPlace.cell b X∈B:=by simpa using y
  rw[z.frozen (M _ S)];exact hz b X S
 ·intro j
  simpa using c j
 ·intro x Q _
  simpa using Q
end
end Go.Proofs.YtoepemlnlpamlaaGreat
