/- The law NamesVisibleAt holds where what it reads is of bulk at most 1048576: it returns true, and its arguments read as before. Part 42: Fre2 FrW Fre3. -/
import Derived.Test.YtoepemlnlpamlaaGreatVisa33
import Derived.Test.YtoepemlnlpamlaaGreatVisa35
import Derived.Test.YtoepemlnlpamlaaGreatVisa40
import Derived.Test.YtoepemlnlpamlaaGreatVisa41
set_option maxRecDepth 100000
set_option maxHeartbeats 4000000
namespace Go.Proofs.YtoepemlnlpamlaaGreat
open Go.RowKit
def Nm(S:List (List ByteArray))(s:aS):Prop:=∀y,(S.any fun l=>l.contains y)=(fe s y).isSome
theorem Nm.push{S:List (List ByteArray)}{s:aS}(h:Nm S s):Nm ([]::S) ([]::s):=fun y=>by
 rw[List.any_cons,h y];rfl
theorem Nm.add{l:List ByteArray}{S:List (List ByteArray)}{lay:lH}{s:aS}(h:Nm (l::S) (lay::s))(x:ByteArray):Nm ((l++[x])::S) (dh lay x 0::s):=fun y=>by
 have C:=h y;rw[List.any_cons,fe]at C⊢;by_cases e:y=x
 ·have A:aU (dh lay x 0) y=some 0:=by
   show bE (dh lay x 0) y=some 0;rw[nW,if_pos e]
  have B:(l++[x]).contains y=true:=by
   rw[List.contains_iff_mem];simp[e]
  rw[A,B];rfl
 ·have A:aU (dh lay x 0) y=aU lay y:=by
   show bE (dh lay x 0) y=bE lay y;rw[nW,if_neg e]
  have B:(l++[x]).contains y=l.contains y:=by
   rw[Bool.eq_iff_iff,List.contains_iff_mem,List.contains_iff_mem];simp[e]
  rw[A,B];exact C
theorem zQ(l:List ByteArray)(x:ByteArray):kJ l x=l.contains x:=by
 unfold kJ;rw[Bool.eq_iff_iff,List.contains_iff_mem,List.any_eq_true];constructor
 ·rintro⟨y,A,h⟩
  rw[beq_iff_eq,ByteArray.toList_eq,ByteArray.toList_eq]at h;rw[<- mY h];exact A
 ·intro h
  exact⟨x,h,by simp⟩
theorem addF_eq{S:List (List ByteArray)}{s:aS}(h:Nm S s)(x:ByteArray)(A:List ByteArray):Ld s x A=if (S.any fun l=>l.contains x) || A.contains x then A else A++[x]:=by
 unfold Ld;rw[h x,zQ]
theorem addF_len(s:aS)(x:ByteArray)(A:List ByteArray):(Ld s x A).length<=A.length+1:=by
 unfold Ld;split
 ·omega
 ·simp
mutual
theorem tO:∀(t:ae) (S:List (List ByteArray)) (A:List ByteArray),(jd t S A).length<=A.length+ai t
 | .node k x a e kids,S,A=>by
  rw[jd,ai];refine aac (O9 k x kids 0 _ _) ?_;split
  ·split
   ·omega
   ·simp;omega
  ·omega
theorem O9(k:Int)(x:ByteArray):∀(ts:List ae) (i:Nat) (S:List (List ByteArray)) (A:List ByteArray),(rT k x ts i S A).length<=A.length+aD ts
 | [],i,S,A=>by rw[rT,aD];omega
 | t::ts,i,S,A=>by
  rw[ru,aD];refine aac (O9 k x ts (i+1) _ _) ?_;have:=tO t (if k=16/\i=2 then [x]::S else S) A;omega
end
def YO(B base ob ab vb:Nat)(t:ae):Prop:=
 ∀(S:List (List ByteArray)) (s:aS) (p:Option Addr) (ms:List Nat) (out:List ByteArray) (A:Option Addr) (c:Nat) (w:World),
  bL w base p s ms->Nm S s->aJ w B A 0 t.kids->base<=w.heap.size->oM base ob out w ->
  aj w ab 91 #[.func (.func 44) #[] #[.pointer (some ⟨ob,0,none⟩)]]->aj w vb 92 #[.func (.func 47) #[] #[.pointer (some ⟨ab,0,none⟩),.pointer (some ⟨vb,0,none⟩)]]->out.length+ai t<=1000000 ->
  Calls Tryz.prog 47 #[aZ t A c,.pointer p,.pointer (some ⟨ab,0,none⟩),.pointer (some ⟨vb,0,none⟩)] w fun e w'=>e= .returned (.tuple #[])/\oM base ob (jd t S out) w'/\FX base ob (fun _=>False) w w'
theorem oM.blk{base ob:Nat}{B:List ByteArray}{w:World}(h:oM base ob B w):∃C,aj w ob 41 C:=by
 obtain⟨A,n,c,D,-⟩:=h;exact⟨_,D⟩
theorem oM.oP{base ob:Nat}{B:List ByteArray}{w w':World}{m:Nat}(h:oM base ob B w)(I:aF (fun g=>g=m) w w')(C:∃E D,w.heap[m]? =some (.map E D)):oM base ob B w':=by
 obtain⟨A,n,c,F,G⟩:=h;obtain⟨E,D,C⟩:=C;refine⟨A,n,c,F.since I (fun e=>?_),G.since I (fun g J e=>?_)⟩
 ·have:w.heap[ob]? =some (Obj.cells _ _ (0,0)):=F
  rw[e,C]at this;cases this
 ·obtain⟨cur,H⟩:=G.obj g J
  rw[e,C]at H;cases H
theorem bL.store{base:Nat}{w w':World}{b m:Nat}{lay C:lH}{s:aS}{B:List Nat}(h:bL w base (some ⟨b,0,none⟩) (lay::s) (m::B))(F:aF (fun g=>g=m) w w')(W:bA jo w' m (jS C))(E:m ∉ B):bL w' base (some ⟨b,0,none⟩) (C::s) (m::B):=by
 obtain⟨v,q,y,Z,I,J,R,S,K,T,U⟩:=h;simp only[List.cons.injEq]at J;obtain⟨rfl,rfl⟩:=J;simp only[aag,Addr.mk.injEq,and_true]at I;subst I;obtain⟨r,u,X⟩:=T.isMap
 have A:∀g t G,aj w g t G->g≠m:=fun g t G V e=>by
  have:w.heap[g]? =some (Obj.cells _ _ (0,0)):=V;rw[e,X]at this;cases this
 have D:∀{s:aS}{p:Option Addr}{B:List Nat},bL w base p s B->m ∉ B->bL w' base p s B:=by
  intro s
  induction s with
  | nil=>exact fun h _=>h
  | cons x s ih=>
   rintro p B ⟨b,Y,z,ms1,L,M,N,O,H,P,Q⟩ E;subst M;rw[List.mem_cons,not_or]at E;exact⟨b,Y,z,ms1,L,rfl,N,O,H.since F (A _ _ _ H),P.since F (fun e=>E.1 e.symm),ih Q E.2⟩
 exact⟨b,m,y,B,rfl,rfl,R,S,K.since F (A _ _ _ K),W,D U E⟩
theorem free_node(B base ob ab vb:Nat)(hB:B<=base/\B<=ob)(r:Int)(x0:ByteArray)(a0 z0:Int)(D:List ae)(hih:∀u∈D,YO B base ob ab vb u):YO B base ob ab vb (.node r x0 a0 z0 D):=by
 intro S s p z out A c w hs hnm hk hb ho hab hvb hm;obtain⟨n,hn⟩:∃q,D.length=q:=⟨_,rfl⟩
 unfold aZ;have tJ:(ae.node r x0 a0 z0 D).kind=r/\(ae.node r x0 a0 z0 D).text=x0/\(ae.node r x0 a0 z0 D).at_=a0/\(ae.node r x0 a0 z0 D).end_=z0/\(ae.node r x0 a0 z0 D).kids=D:=⟨rfl,rfl,rfl,rfl,rfl⟩
 rw[tJ.1,tJ.2.1,tJ.2.2.1,tJ.2.2.2.1,tJ.2.2.2.2,hn];rw[tJ.2.2.2.2]at hk;rw[jd,<- addF_eq hnm];obtain⟨O1,vo⟩:∃q,(if r=20 then Ld s x0 out else out)=q:=⟨_,rfl⟩
 rw[vo];obtain⟨FIN,KT⟩:∃q,rT r x0 D 0 ([]::S) O1=q:=⟨_,rfl⟩
 rw[KT]
 have hml:O1.length+aD D<=1000000:=by
  rw[ai]at hm;rw[<- vo];split
  ·have:=addF_len s x0 out
   omega
  ·omega
 have hnm1:n<=1000000:=by have:=jO D;omega
 have Py:=kH vo;have HFI:=kH KT;have HML:=kH hml;have HS:=kH hs;have HNMM:=kH hnm;have HK:=kH hk;have HO:=kH ho;have HA:=kH hab;have HV:=kH hvb;have HN:=kH hn;have fE:=kH hih;have nU:Hid (B<=base/\B<=ob/\base<=w.heap.size):=kH ⟨hB.1,hB.2,hb⟩;have HM:Hid (out.length<=1000000):=kH (by omega);have c0:=hab.cell 0;have la:=hab.lt;clear vo KT hs hnm hk ho hab hvb hn hih hm hml tJ hb hB;go_in
 go_upto_if 11 with fail
 generalize hW1:w.alloc (.cells #[.int .i64 r,.string x0,.int .i64 a0,.int .i64 z0,.slice A n c] 24)=W1
 have hb1:Below w.heap.size w W1:=by rw[<- hW1];exact ag _ _
 have hN1:aj W1 w.heap.size 24 #[.int .i64 r,.string x0,.int .i64 a0,.int .i64 z0,.slice A n c]:=by rw[<- hW1];exact aj.new w _ _
 have HB1:=kH hb1;have VS:=kH hN1;have c1:=hN1.cell 1;have l1:=hN1.lt;have hA1:=HA.out.below hb1 HA.out.lt;have d0:=hA1.cell 0;have d1:=hA1.lt;clear hW1 hb1 hN1 c0 la;go_cut [] (fun wx=>Hid (oM base ob O1 wx)/\Hid (FX base ob (fun _=>False) W1 wx))
 case first=>
  by_cases h20:r=20
  ·subst h20
   have hadd:=add_any base ob out s p z x0 W1 (bL.below HB1.out HS.out) (HO.out.below HB1.out) (aac nU.out.2.2 HB1.out.size) HM.out;have HADD:=kH hadd;clear hadd hA1;go_wp2_with fail
   refine HADD.out.mono ?_;rintro e2 w2 ⟨rfl,h2,h3⟩;have H2:Hid (oM base ob O1 w2):=kH (by rw[<- Py.out,if_pos (by first|trivial|rfl)];exact h2);have H3:=kH h3;clear h2 h3;go_wp2_with fail
   go_meet
   exact⟨H2,H3⟩
  ·have oI:(r==20)=false:=by simp[h20]
   have H2:Hid (oM base ob O1 W1):=kH (by rw[<- Py.out,if_neg h20];exact HO.out.below HB1.out);clear h20 hA1;go_wp2_with fail
   go_meet
   exact⟨H2,kH (FX.refl _ _ _ _)⟩
 case rest=>
  obtain⟨r9,zD⟩:=hcut;obtain⟨cs1,R9⟩:=(HO.out.below HB1.out).blk;have hsc:=FX.sc zD.out R9 (fun _ _ _ _ h=>h) (bL.below HB1.out HS.out) (fun _ _ h=>h);have hNc:=zD.out.blk VS.out (by decide) (VS.out.ne_of R9 (by decide)) (fun h=>h);have hAc:=zD.out.blk hA1 (by decide) (hA1.ne_of R9 (by decide)) (fun h=>h);have hV1:=HV.out.below HB1.out HV.out.lt;have hVc:=zD.out.blk hV1 (by decide) (hV1.ne_of R9 (by decide)) (fun h=>h);have HSC:=kH hsc;have HNC:=kH hNc;have Er:=kH hAc;have HVC:=kH hVc;have HZ:Hid (w.heap.size<=wc.heap.size):=kH (aac HB1.out.size zD.out.size);clear hsc hNc hAc hVc hV1 hA1 R9 d0 d1 c1 l1;go_wp2_with fail
  refine(Gz p wc).mono ?_;rintro e3 w3 ⟨b,m,rfl,hbb,hmm,hblk,iw,I⟩;have KM:base<=wc.heap.size:=aac nU.out.2.2 HZ.out;have iW:Hid (bL w3 base (some ⟨b,0,none⟩) ([]::s) (m::z)):=kH ⟨b,m,p,z,rfl,rfl,aac KM hbb,aac KM hmm,hblk,iw,HSC.out.below I⟩
  have HMN:Hid (m ∉ z):=kH (fun h=>by
   have L:∀{s:aS}{p:Option Addr}{z:List Nat},bL wc base p s z->∀m∈z,m<wc.heap.size:=by
    intro s
    induction s with
    | nil=>intro p z h m hm;rw[h.2]at hm;cases hm
    | cons x s ih=>
     rintro p z ⟨b,m1,p',ms1,e1,e2,e3,e4,e5,e6,e7⟩ m hm;rw[e2]at hm;rcases List.mem_cons.1 hm with rfl|hm
     ·exact e6.lt
     ·exact ih e7 m hm
   have:=L HSC.out m h
   omega)
  have FT:=kH (r9.out.below I);have jA:=kH (HNC.out.below I HNC.out.lt);have HA3:=kH (Er.out.below I Er.out.lt);have fO:=kH (HVC.out.below I HVC.out.lt);have HX3:Hid (FX base ob (fun _=>False) w w3):=kH (((FX.of_below HB1.out).trans zD.out (fun g O=>.inl O)).trans (FX.of_below (M:=fun _=>False) I) (fun g O=>.inl O));have VT:Hid (w.heap.size<=m/\w.heap.size<=w3.heap.size/\base<=w3.heap.size/\base<=m):=kH ⟨aac HZ.out hmm,aac HZ.out I.size,aac KM I.size,aac KM hmm⟩;have n4:=jA.out.cell 4;have ln:=jA.out.lt;clear hblk iw I hbb hmm KM;go_wp2_with fail
  clear n4 ln
  go_loopg [22] n (fun gk s22 wr=> ∃(j:Nat) (l:List ByteArray) (lay:lH) (C:List ByteArray),s22= .int .i64 (j:Int)/\j+gk=n/\Hid (bL wr base (some ⟨b,0,none⟩) (lay::s) (m::z))/\Hid (Nm (l::S) (lay::s))/\Hid (oM base ob C wr)/\Hid (FX base ob (fun g=>g=m) w3 wr) /\
   Hid (aj wr w.heap.size 24 #[.int .i64 r,.string x0,.int .i64 a0,.int .i64 z0,.slice A n c])/\Hid (aj wr ab 91 #[.func (.func 44) #[] #[.pointer (some ⟨ob,0,none⟩)]])/\Hid (aj wr vb 92 #[.func (.func 47) #[] #[.pointer (some ⟨ab,0,none⟩),.pointer (some ⟨vb,0,none⟩)]]) /\
   Hid (rT r x0 (D.drop j) j (l::S) C=FIN)/\Hid (C.length+aD (D.drop j)<=1000000))
  case atStart=>exact⟨0,[],[],O1,rfl,by omega,iW,kH HNMM.out.push,FT,kH (FX.refl _ _ _ _),jA,HA3,fO,HFI,HML⟩
  case round=>
   obtain⟨j,l,lay,C,rfl,hj,HSR,rC,HOR,HXR,HNR,HAR,HVR,jL,R⟩:=hrel;by_cases hlt:j<n
   ·have hlt':(j:Int)<(n:Int):=by omega
    have hw:IntKind.i64.wrap ((j:Int)+1)=(j:Int)+1:=IntWalk.i64_in _ (by omega);obtain⟨u,hu⟩:∃u,D[j]? =some u:=⟨_,aaf (by rw[HN.out];exact hlt)⟩
    have K:Hid (D.drop j=u::D.drop (j+1)):=kH (by
     obtain⟨L,h2⟩:=aah.1 hu
     rw[List.drop_eq_getElem_cons L,h2])
    have hbW:Below B w wr:=(HX3.out.low (aac nU.out.1 nU.out.2.2) nU.out.2.1 nU.out.1 (fun _ h=>h.elim)).trans (HXR.out.low (aac nU.out.1 VT.out.2.2.1) nU.out.2.1 nU.out.1 (fun g O=>by rw[O];exact aac nU.out.1 VT.out.2.2.2));have hkr:aJ wr B A 0 D:=aJ.below hbW (aab _) _ _ _ HK.out;obtain⟨vals,⟨bk,off,hA,hbl,hcs⟩,hT⟩:=hkr.get j u hu;obtain⟨A',c',jF,hK'⟩:=hT.five;subst hA;subst jF;have hsz:w3.heap.size<=wr.heap.size:=HXR.out.size;have hbb:bk<wr.heap.size:=by have:=nU.out;have:=VT.out;omega
    obtain⟨uk,xJ⟩:∃q,u.kind=q:=⟨_,rfl⟩
    obtain⟨G,xI⟩:∃q,u.text=q:=⟨_,rfl⟩
    obtain⟨ua,zX⟩:∃q,u.at_=q:=⟨_,rfl⟩
    obtain⟨uz,D9⟩:∃q,u.end_=q:=⟨_,rfl⟩
    obtain⟨un,hun⟩:∃q,u.kids.length=q:=⟨_,rfl⟩
    have d:∀q v,[Value.int .i64 uk,.string G,.int .i64 ua,.int .i64 uz,.slice A' un c'][q]? =some v->wr.cell? ⟨bk,off+j*5+q,none⟩=some v:=fun q v hq=>by
     have:=hcs q v (by rw[xJ,xI,zX,D9,hun];exact hq);rw[show off+(0+j)*5+q=off+j*5+q by omega]at this;exact this
    have t0:wr.cell? ⟨bk,off+j*5,none⟩=some (.int .i64 uk):=by simpa using d 0 _ rfl
    have t1:wr.cell? ⟨bk,off+j*5+1,none⟩=some (.string G):=by simpa using d 1 _ rfl
    have t2:wr.cell? ⟨bk,off+j*5+2,none⟩=some (.int .i64 ua):=by simpa using d 2 _ rfl
    have t3:wr.cell? ⟨bk,off+j*5+3,none⟩=some (.int .i64 uz):=by simpa using d 3 _ rfl
    have t4:wr.cell? ⟨bk,off+j*5+4,none⟩=some (.slice A' un c'):=by simpa using d 4 _ rfl
    have hmem:u∈D:=aan hu;have Nk:Hid (u.kind=uk/\u.text=G):=kH ⟨xJ,xI⟩;obtain⟨X,hX⟩:∃X,wr.alloc (.cells #[.int .i64 uk,.string G,.int .i64 ua,.int .i64 uz,.slice A' un c'] 24)=X:=⟨_,rfl⟩
    have hbX:Below wr.heap.size wr X:=by rw[<- hX];exact ag _ _
    have ML:aj X wr.heap.size 24 #[.int .i64 uk,.string G,.int .i64 ua,.int .i64 uz,.slice A' un c']:=by rw[<- hX];exact aj.new wr _ _
    have bG:=kH (HNR.out.below hbX HNR.out.lt);have Nz:=kH (HAR.out.below hbX HAR.out.lt);have Ej:=kH (HVR.out.below hbX HVR.out.lt);have Ca:=kH (HSR.out.below hbX);have HOX:=kH (HOR.out.below hbX);have HXX:Hid (FX base ob (fun g=>g=m) w3 X):=kH (HXR.out.trans (FX.of_below (M:=fun _=>False) hbX) (fun g O=>O.elim));have HUX:=kH ML;have ny:Hid (aJ X B A' 0 u.kids):=kH (aJ.below hbX (by have:=nU.out;have:=VT.out;omega) _ _ _ hK');have HXZ:Hid (base<=X.heap.size/\wr.heap.size<X.heap.size):=kH ⟨by have:=VT.out;have:=hbX.size;omega,ML.lt⟩;have HUI:Hid (aZ u A' c'= .agg #[.int .i64 uk,.string G,.int .i64 ua,.int .i64 uz,.slice A' un c']):=kH (by unfold aZ;rw[xJ,xI,zX,D9,hun])
    have HLU:Hid (C.length+ai u<=1000000):=kH (by
     have L:=R.out;rw[K.out,aD]at L
     omega)
    have HME:=kH hmem;have q0:=bG.out.cell 0;have q1:=bG.out.cell 1;have lq:=bG.out.lt;have y0:=ML.cell 0;have y1:=ML.cell 1;have y2:=ML.cell 2;have y3:=ML.cell 3;have y4:=ML.cell 4;have ly:=ML.lt;have v0:=Ej.out.cell 0;have lv:=Ej.out.lt;clear hcs d hT hK' hkr hbW hu hmem xJ xI zX D9 hun ML hbX;by_cases h16:r=16/\j=2
    ·obtain⟨Q,SX⟩:∃Q,[x0]::(l::S)=Q:=⟨_,rfl⟩
     have TL:Hid ((if r=16/\j=2 then [x0]::(l::S) else l::S)=Q):=kH (by rw[if_pos h16];exact SX);have hg1:(r==16)=true:=by simp[h16.1]
     have hg2:((j:Int)==2)=true:=by simp[h16.2]
     clear h16;go_wp2_with (rw[hX])
     refine(Gz (some ⟨b,0,none⟩) X).mono ?_;rintro e5 w5 ⟨b2,m2,rfl,KN,hmm2,hblk2,SB,MJ⟩;have hd1:=hblk2.cell 1;have hdl:=hblk2.lt;have hN5:=bG.out.below MJ bG.out.lt;have x1:=hN5.cell 1;have lx:=hN5.lt;obtain⟨w6,E,gU,Sm,hz6⟩:=fI (P:=Tryz.prog) (KK:=jo) (t:=70) (kt:=9) (et:=3) Tryz.underlying70 Tryz.underlying9 (SB.drew) x0 (.int .i64 0);change (Instr.mapUpdate 70 (.map (some m2)) (Value.string x0) (.int .i64 0)).run Tryz.prog w5.drew=_ at E;have hm6':bA jo w6 m2 (jS [(x0,0)]):=gU;have hs6:aF (fun g=>g=m2) w5 w6:=((aF.refl (fun g=>g=m2) w5).drew).grown Sm (fun k hk=>by cases hk;exact .inl rfl);have f:Below X.heap.size X w6:=MJ.trans (hs6.toBelow MJ.size (fun g O=>by rw[O];exact hmm2));have hbase:=HXZ.out.1
     have rz:bL w6 base (some ⟨b2,0,none⟩) ([(x0,0)]::(lay::s)) (m2::(m::z)):=by
      refine bL.store (lay:=[]) ⟨b2,m2,some ⟨b,0,none⟩,m::z,rfl,rfl,aac hbase KN,aac hbase hmm2,hblk2,SB,Ca.out.below MJ⟩ hs6 hm6' (fun h=>?_)
      have L:∀{s:aS}{p:Option Addr}{z:List Nat},bL X base p s z->∀m∈z,m<X.heap.size:=by
       intro s
       induction s with
       | nil=>intro p z h m hm;rw[h.2]at hm;cases hm
       | cons x s ih=>
        rintro p z ⟨b,m1,p',ms1,e1,e2,e3,e4,e5,e6,e7⟩ m hm;rw[e2]at hm;rcases List.mem_cons.1 hm with rfl|hm
        ·exact e6.lt
        ·exact ih e7 m hm
      have:=L Ca.out m2 h;omega
     have FQ:Hid (bL w6 base (some ⟨b,0,none⟩) (lay::s) (m::z)):=kH (Ca.out.below f);have zF:=kH (HUX.out.below f HUX.out.lt);have lV:=kH (bG.out.below f bG.out.lt);have FW:=kH (Nz.out.below f Nz.out.lt);have wV:=kH (Ej.out.below f Ej.out.lt);have TQ:=kH (HOX.out.below f);have HXB:Hid (FX base ob (fun g=>g=m) w3 w6):=kH (HXX.out.trans (FX.of_below (M:=fun _=>False) f) (fun g O=>O.elim));have F:=fE.out u HME.out Q ([(x0,0)]::(lay::s)) (some ⟨b2,0,none⟩) (m2::(m::z)) C A' c' w6 rz (by rw[<- SX];exact rC.out.push.add x0) (aJ.below f (by have:=nU.out;have:=HXZ.out;omega) _ _ _ ny.out) (aac hbase f.size) TQ.out FW.out wV.out HLU.out;rw[HUI.out]at F;have HC:=kH F;have z0:=zF.out.cell 0;have z1:=zF.out.cell 1;have z2:=zF.out.cell 2;have z3:=zF.out.cell 3;have z4:=zF.out.cell 4;have lz:=zF.out.lt;have g0:=wV.out.cell 0;have lg:=wV.out.lt;clear F rz gU hm6' Sm hz6 hs6 f hblk2 SB MJ KN hmm2 hN5 hX SX y0 y1 y2 y3 y4 ly v0 lv q0 q1 lq t0 t1 t2 t3 t4 hbase;go_wp2_with fail
     refine eQ (fun w'=>w'.cell? ⟨b2,1,none⟩=some (.map (some m2))/\w'.cell? ⟨w.heap.size,1,none⟩=some (.string x0)) [6] [true,true,true,true,true,true,false] (by kernel_rfl) (by kernel_rfl) rfl (by kernel_rfl) ?_;have T:w5.drew.cell? ⟨b2,1,none⟩=some (.map (some m2))/\w5.drew.cell? ⟨w.heap.size,1,none⟩=some (.string x0):=⟨hd1,x1⟩
     iterate 6(refine ic rfl T (by intro w' hSw;obtain⟨hs1,hs2⟩:=hSw;go_simp;rfl) ?_;simp only[Act.put,sA,sZ,sC])
     refine iU (w':=w6) rfl (by simp[execOp,Act.eval,E,Result.andThen]) (by simp) ?_;refine jm ?_;simp only[Act.put];clear T hd1 hdl x1 lx E;go_wp2_with fail
     refine HC.out.mono ?_;clear z0 z1 z2 z3 z4 lz g0 lg HC;rintro e7 y ⟨rfl,h7,N⟩;obtain⟨csB,uH⟩:=TQ.out.blk;have U:=FX.sc N uH (fun _ _ _ _ h=>h) FQ.out (fun _ _ h=>h);have zm:=N.blk zF.out (by decide) (zF.out.ne_of uH (by decide)) (fun h=>h);have uq:=N.blk lV.out (by decide) (lV.out.ne_of uH (by decide)) (fun h=>h);have GM:=N.blk FW.out (by decide) (FW.out.ne_of uH (by decide)) (fun h=>h);have W:=N.blk wV.out (by decide) (wV.out.ne_of uH (by decide)) (fun h=>h);have Y:=HXB.out.trans N (fun g O=>O.elim);have u0:=zm.cell 0;have u1:=zm.cell 1;have lu:=zm.lt;have wW:=kH h7;have Pw:=kH U;have vR:=kH uq;have Il:=kH GM;have lT:=kH W;have rZ:=kH Y;by_cases H:uk=12
     ·subst H
      obtain⟨b',m',p2,xC,hb',hm',-,-,V,J,-⟩:=U;simp only[List.cons.injEq]at hm';obtain⟨rfl,rfl⟩:=hm';simp only[aag,Addr.mk.injEq,and_true]at hb';subst hb';have d1:=V.cell 1;have ld:=V.lt;obtain⟨w8,E,dY,OY,RI⟩:=fI (P:=Tryz.prog) (KK:=jo) (t:=70) (kt:=9) (et:=3) Tryz.underlying70 Tryz.underlying9 (J.drew) G (.int .i64 0);change (Instr.mapUpdate 70 (.map (some m)) (Value.string G) (.int .i64 0)).run Tryz.prog y.drew=_ at E;rw[yD]at dY;have Z:aF (fun g=>g=m) y w8:=((aF.refl (fun g=>g=m) y).drew).grown OY (fun k hk=>by cases hk;exact .inl rfl);have Cb:Hid (bL w8 base (some ⟨b,0,none⟩) (dh lay G 0::s) (m::z)):=kH (bL.store Pw.out Z dY HMN.out);have zH:Hid (oM base ob (jd u Q C) w8):=kH (wW.out.oP Z J.isMap);have iQ:Hid (FX base ob (fun g=>g=m) w3 w8):=kH (rZ.out.trans (FX.oP Z) (fun g O=>.inl O))
      have uI:∀g t cs,aj y g t cs->g≠m:=fun g t cs hb e=>by
       obtain⟨es,ck,ho⟩:=J.isMap;have:y.heap[g]? =some (Obj.cells _ _ (0,0)):=hb;rw[e,ho]at this;cases this
      have HP4:=kH (vR.out.since Z (uI _ _ _ vR.out));have HP5:=kH (Il.out.since Z (uI _ _ _ Il.out));have HP6:=kH (lT.out.since Z (uI _ _ _ lT.out));clear V J dY OY RI Z uI h7 uq GM W Y N;go_wp2_with fail
      refine eQ (fun w'=>w'.cell? ⟨b,1,none⟩=some (.map (some m))/\w'.cell? ⟨wr.heap.size,1,none⟩=some (.string G)) [6] [true,true,true,true,true,true,false] (by kernel_rfl) (by kernel_rfl) rfl (by kernel_rfl) ?_;have T:y.drew.cell? ⟨b,1,none⟩=some (.map (some m))/\y.drew.cell? ⟨wr.heap.size,1,none⟩=some (.string G):=⟨d1,u1⟩
      iterate 6(refine ic rfl T (by intro w' hSw;obtain⟨hs1,hs2⟩:=hSw;go_simp;rfl) ?_;simp only[Act.put,sA,sZ,sC])
      refine iU (w':=w8) rfl (by simp[execOp,Act.eval,E,Result.andThen]) (by simp) ?_;refine jm ?_;simp only[Act.put];clear T d1 u0 u1 lu E zm;go_wp2_with fail
      go_roundg (gk - 1)
      case measure=>omega
      case rel=>
       refine⟨j+1,l++[G],dh lay G 0,jd u Q C,by simp,by omega,Cb,kH (rC.out.add G),zH,iQ,HP4,HP5,HP6,kH ?_,kH ?_⟩
       ·rw[<- jL.out,K.out,ru,<- TL.out]
        congr 1
        unfold Lc;rw[if_pos Nk.out.1,Nk.out.2]
       ·have L:=R.out
        rw[K.out,aD]at L;have h2:=tO u Q C;omega
     ·have oI:(uk==12)=false:=by simp[H]
      have pK:=kH H;clear h7 U uq GM W Y N zm H;go_wp2_with fail
      go_roundg (gk - 1)
      case measure=>omega
      case rel=>
       refine⟨j+1,l,lay,jd u Q C,by simp,by omega,Pw,rC,wW,rZ,vR,Il,lT,kH ?_,kH ?_⟩
       ·rw[<- jL.out,K.out,ru,<- TL.out]
        congr 1
        unfold Lc;rw[if_neg (by rw[Nk.out.1];exact pK.out)]
       ·have L:=R.out
        rw[K.out,aD]at L;have h2:=tO u Q C;omega
    ·obtain⟨Q,SX⟩:∃Q,l::S=Q:=⟨_,rfl⟩
     have TL:Hid ((if r=16/\j=2 then [x0]::(l::S) else l::S)=Q):=kH (by rw[if_neg h16];exact SX);have FQ:=Ca;have zF:=HUX;have lV:=bG;have FW:=Nz;have wV:=Ej;have TQ:=HOX;have HXB:=HXX;have F:=fE.out u HME.out Q (lay::s) (some ⟨b,0,none⟩) (m::z) C A' c' X Ca.out (by rw[<- SX];exact rC.out) ny.out HXZ.out.1 HOX.out Nz.out Ej.out HLU.out;rw[HUI.out]at F;have HC:=kH F
     have hg16:(r==16)=false\/((r==16)=true/\((j:Int)==2)=false):=by
      by_cases L:r=16
      ·right
       refine⟨by simp[L],?_⟩;have:j≠2:=fun e=>h16 ⟨L,e⟩
       simp;omega
      ·left
       simp[L]
     clear F SX h16;rcases hg16 with hg1| ⟨hg1,hg2⟩
     ·go_wp2_with (rw[hX])
      refine HC.out.mono ?_;clear y0 y1 y2 y3 y4 ly v0 lv q0 q1 lq t0 t1 t2 t3 t4 HC hX;rintro e7 y ⟨rfl,h7,N⟩;obtain⟨csB,uH⟩:=TQ.out.blk;have U:=FX.sc N uH (fun _ _ _ _ h=>h) FQ.out (fun _ _ h=>h);have zm:=N.blk zF.out (by decide) (zF.out.ne_of uH (by decide)) (fun h=>h);have uq:=N.blk lV.out (by decide) (lV.out.ne_of uH (by decide)) (fun h=>h);have GM:=N.blk FW.out (by decide) (FW.out.ne_of uH (by decide)) (fun h=>h);have W:=N.blk wV.out (by decide) (wV.out.ne_of uH (by decide)) (fun h=>h);have Y:=HXB.out.trans N (fun g O=>O.elim);have u0:=zm.cell 0;have u1:=zm.cell 1;have lu:=zm.lt;have wW:=kH h7;have Pw:=kH U;have vR:=kH uq;have Il:=kH GM;have lT:=kH W;have rZ:=kH Y;by_cases H:uk=12
      ·subst H
       obtain⟨b',m',p2,xC,hb',hm',-,-,V,J,-⟩:=U;simp only[List.cons.injEq]at hm';obtain⟨rfl,rfl⟩:=hm';simp only[aag,Addr.mk.injEq,and_true]at hb';subst hb';have d1:=V.cell 1;have ld:=V.lt;obtain⟨w8,E,dY,OY,RI⟩:=fI (P:=Tryz.prog) (KK:=jo) (t:=70) (kt:=9) (et:=3) Tryz.underlying70 Tryz.underlying9 (J.drew) G (.int .i64 0);change (Instr.mapUpdate 70 (.map (some m)) (Value.string G) (.int .i64 0)).run Tryz.prog y.drew=_ at E;rw[yD]at dY;have Z:aF (fun g=>g=m) y w8:=((aF.refl (fun g=>g=m) y).drew).grown OY (fun k hk=>by cases hk;exact .inl rfl);have Cb:Hid (bL w8 base (some ⟨b,0,none⟩) (dh lay G 0::s) (m::z)):=kH (bL.store Pw.out Z dY HMN.out);have zH:Hid (oM base ob (jd u Q C) w8):=kH (wW.out.oP Z J.isMap);have iQ:Hid (FX base ob (fun g=>g=m) w3 w8):=kH (rZ.out.trans (FX.oP Z) (fun g O=>.inl O))
       have uI:∀g t cs,aj y g t cs->g≠m:=fun g t cs hb e=>by
        obtain⟨es,ck,ho⟩:=J.isMap;have:y.heap[g]? =some (Obj.cells _ _ (0,0)):=hb;rw[e,ho]at this;cases this
       have HP4:=kH (vR.out.since Z (uI _ _ _ vR.out));have HP5:=kH (Il.out.since Z (uI _ _ _ Il.out));have HP6:=kH (lT.out.since Z (uI _ _ _ lT.out));clear V J dY OY RI Z uI h7 uq GM W Y N;go_wp2_with fail
       refine eQ (fun w'=>w'.cell? ⟨b,1,none⟩=some (.map (some m))/\w'.cell? ⟨wr.heap.size,1,none⟩=some (.string G)) [6] [true,true,true,true,true,true,false] (by kernel_rfl) (by kernel_rfl) rfl (by kernel_rfl) ?_;have T:y.drew.cell? ⟨b,1,none⟩=some (.map (some m))/\y.drew.cell? ⟨wr.heap.size,1,none⟩=some (.string G):=⟨d1,u1⟩
       iterate 6(refine ic rfl T (by intro w' hSw;obtain⟨hs1,hs2⟩:=hSw;go_simp;rfl) ?_;simp only[Act.put,sA,sZ,sC])
       refine iU (w':=w8) rfl (by simp[execOp,Act.eval,E,Result.andThen]) (by simp) ?_;refine jm ?_;simp only[Act.put];clear T d1 u0 u1 lu E zm;go_wp2_with fail
       go_roundg (gk - 1)
       case measure=>omega
       case rel=>
        refine⟨j+1,l++[G],dh lay G 0,jd u Q C,by simp,by omega,Cb,kH (rC.out.add G),zH,iQ,HP4,HP5,HP6,kH ?_,kH ?_⟩
        ·rw[<- jL.out,K.out,ru,<- TL.out]
         congr 1
         unfold Lc;rw[if_pos Nk.out.1,Nk.out.2]
        ·have L:=R.out
         rw[K.out,aD]at L;have h2:=tO u Q C;omega
      ·have oI:(uk==12)=false:=by simp[H]
       have pK:=kH H;clear h7 U uq GM W Y N zm H;go_wp2_with fail
       go_roundg (gk - 1)
       case measure=>omega
       case rel=>
        refine⟨j+1,l,lay,jd u Q C,by simp,by omega,Pw,rC,wW,rZ,vR,Il,lT,kH ?_,kH ?_⟩
        ·rw[<- jL.out,K.out,ru,<- TL.out]
         congr 1
         unfold Lc;rw[if_neg (by rw[Nk.out.1];exact pK.out)]
        ·have L:=R.out
         rw[K.out,aD]at L;have h2:=tO u Q C;omega
     ·go_wp2_with (rw[hX])
      refine HC.out.mono ?_;clear y0 y1 y2 y3 y4 ly v0 lv q0 q1 lq t0 t1 t2 t3 t4 HC hX;rintro e7 y ⟨rfl,h7,N⟩;obtain⟨csB,uH⟩:=TQ.out.blk;have U:=FX.sc N uH (fun _ _ _ _ h=>h) FQ.out (fun _ _ h=>h);have zm:=N.blk zF.out (by decide) (zF.out.ne_of uH (by decide)) (fun h=>h);have uq:=N.blk lV.out (by decide) (lV.out.ne_of uH (by decide)) (fun h=>h);have GM:=N.blk FW.out (by decide) (FW.out.ne_of uH (by decide)) (fun h=>h);have W:=N.blk wV.out (by decide) (wV.out.ne_of uH (by decide)) (fun h=>h);have Y:=HXB.out.trans N (fun g O=>O.elim);have u0:=zm.cell 0;have u1:=zm.cell 1;have lu:=zm.lt;have wW:=kH h7;have Pw:=kH U;have vR:=kH uq;have Il:=kH GM;have lT:=kH W;have rZ:=kH Y;by_cases H:uk=12
      ·subst H
       obtain⟨b',m',p2,xC,hb',hm',-,-,V,J,-⟩:=U;simp only[List.cons.injEq]at hm';obtain⟨rfl,rfl⟩:=hm';simp only[aag,Addr.mk.injEq,and_true]at hb';subst hb';have d1:=V.cell 1;have ld:=V.lt;obtain⟨w8,E,dY,OY,RI⟩:=fI (P:=Tryz.prog) (KK:=jo) (t:=70) (kt:=9) (et:=3) Tryz.underlying70 Tryz.underlying9 (J.drew) G (.int .i64 0);change (Instr.mapUpdate 70 (.map (some m)) (Value.string G) (.int .i64 0)).run Tryz.prog y.drew=_ at E;rw[yD]at dY;have Z:aF (fun g=>g=m) y w8:=((aF.refl (fun g=>g=m) y).drew).grown OY (fun k hk=>by cases hk;exact .inl rfl);have Cb:Hid (bL w8 base (some ⟨b,0,none⟩) (dh lay G 0::s) (m::z)):=kH (bL.store Pw.out Z dY HMN.out);have zH:Hid (oM base ob (jd u Q C) w8):=kH (wW.out.oP Z J.isMap);have iQ:Hid (FX base ob (fun g=>g=m) w3 w8):=kH (rZ.out.trans (FX.oP Z) (fun g O=>.inl O))
       have uI:∀g t cs,aj y g t cs->g≠m:=fun g t cs hb e=>by
        obtain⟨es,ck,ho⟩:=J.isMap;have:y.heap[g]? =some (Obj.cells _ _ (0,0)):=hb;rw[e,ho]at this;cases this
       have HP4:=kH (vR.out.since Z (uI _ _ _ vR.out));have HP5:=kH (Il.out.since Z (uI _ _ _ Il.out));have HP6:=kH (lT.out.since Z (uI _ _ _ lT.out));clear V J dY OY RI Z uI h7 uq GM W Y N;go_wp2_with fail
       refine eQ (fun w'=>w'.cell? ⟨b,1,none⟩=some (.map (some m))/\w'.cell? ⟨wr.heap.size,1,none⟩=some (.string G)) [6] [true,true,true,true,true,true,false] (by kernel_rfl) (by kernel_rfl) rfl (by kernel_rfl) ?_;have T:y.drew.cell? ⟨b,1,none⟩=some (.map (some m))/\y.drew.cell? ⟨wr.heap.size,1,none⟩=some (.string G):=⟨d1,u1⟩
       iterate 6(refine ic rfl T (by intro w' hSw;obtain⟨hs1,hs2⟩:=hSw;go_simp;rfl) ?_;simp only[Act.put,sA,sZ,sC])
       refine iU (w':=w8) rfl (by simp[execOp,Act.eval,E,Result.andThen]) (by simp) ?_;refine jm ?_;simp only[Act.put];clear T d1 u0 u1 lu E zm;go_wp2_with fail
       go_roundg (gk - 1)
       case measure=>omega
       case rel=>
        refine⟨j+1,l++[G],dh lay G 0,jd u Q C,by simp,by omega,Cb,kH (rC.out.add G),zH,iQ,HP4,HP5,HP6,kH ?_,kH ?_⟩
        ·rw[<- jL.out,K.out,ru,<- TL.out]
         congr 1
         unfold Lc;rw[if_pos Nk.out.1,Nk.out.2]
        ·have L:=R.out
         rw[K.out,aD]at L;have h2:=tO u Q C;omega
      ·have oI:(uk==12)=false:=by simp[H]
       have pK:=kH H;clear h7 U uq GM W Y N zm H;go_wp2_with fail
       go_roundg (gk - 1)
       case measure=>omega
       case rel=>
        refine⟨j+1,l,lay,jd u Q C,by simp,by omega,Pw,rC,wW,rZ,vR,Il,lT,kH ?_,kH ?_⟩
        ·rw[<- jL.out,K.out,ru,<- TL.out]
         congr 1
         unfold Lc;rw[if_neg (by rw[Nk.out.1];exact pK.out)]
        ·have L:=R.out
         rw[K.out,aD]at L;have h2:=tO u Q C;omega
   ·have hjn:j=n:=by omega
    subst hjn;have hge:¬((j:Int)<(j:Int)):=by omega
    have HE:Hid (oM base ob FIN wr/\FX base ob (fun _=>False) w wr):=kH ⟨by
     have L:=jL.out;rw[List.drop_eq_nil_of_le (by rw[HN.out];exact aab _),rT]at L;rw[<- L]
     exact HOR.out,HX3.out.trans HXR.out (fun g O=>.inr (by rw[O];exact VT.out.1))⟩
    go_wp2_with fail
    go_end0
    exact⟨rfl,HE.out.1,HE.out.2⟩
theorem free_n(B base ob A C:Nat)(D:B<=base/\B<=ob):∀(n:Nat) (t:ae),ai t<=n->YO B base ob A C t
 | 0,t,h=>by
  have:=lN t;omega
 | n+1,.node k x a e kids,h=>free_node B base ob A C D k x a e kids fun c E=>free_n B base ob A C D n c (by
  have:=AP E;rw[ai]at h
  omega)
mutual
def xX:ae->List ByteArray->List ByteArray->List ByteArray
 | .node k x _ _ kids,kn,out=>vN k x kids 0 kn (if k=20/\kn.contains x=false/\out.contains x=false then out++[x] else out)
def vN(k:Int)(x:ByteArray):List ae->Nat->List ByteArray->List ByteArray->List ByteArray
 | [],_,_,out=>out
 | t::ts,i,kn,out=>vN k x ts (i+1) (if t.kind=12 then kn++[t.text] else kn) (xX t (if k=16/\i=2 then kn++[x] else kn) out)
end
def yh(S:List (List ByteArray))(kn:List ByteArray):Prop:=∀y,kn.contains y=S.any fun l=>l.contains y
theorem BR(a b:List ByteArray)(y:ByteArray):(a++b).contains y=(a.contains y || b.contains y):=by
 rw[Bool.eq_iff_iff,Bool.or_eq_true,List.contains_iff_mem,List.contains_iff_mem,List.contains_iff_mem,List.mem_append]
theorem yh.push{S:List (List ByteArray)}{A:List ByteArray}(h:yh S A):yh ([]::S) A:=by
 intro y;rw[List.any_cons,<- h y];rfl
theorem yh.top{S:List (List ByteArray)}{A:List ByteArray}(h:yh S A)(x:ByteArray):yh ([x]::S) (A++[x]):=by
 intro y;rw[List.any_cons,<- h y,BR,Bool.or_comm]
theorem yh.add{l:List ByteArray}{S:List (List ByteArray)}{A:List ByteArray}(h:yh (l::S) A)(x:ByteArray):yh ((l++[x])::S) (A++[x]):=by
 intro y;have:=h y;rw[List.any_cons]at this;rw[List.any_cons,BR,BR,this];cases l.contains y<;>cases (S.any fun l=>l.contains y)<;>cases ([x]:List ByteArray).contains y<;>rfl
mutual
theorem AL:∀(t:ae) (S:List (List ByteArray)) (B A:List ByteArray),yh S B->xX t B A=jd t S A
 | .node k x a e kids,S,B,A,h=>by
  rw[xX,jd,Dr k x kids 0 ([]::S) B _ (by simp) h.push]
  have e:(if k=20/\B.contains x=false/\A.contains x=false then A++[x] else A)=(if k=20 then(if (S.any fun l=>l.contains x) || A.contains x then A else A++[x]) else A):=by
   rw[<- h x];by_cases C:k=20
   ·rw[if_pos C]
    by_cases D:B.contains x=true
    ·rw[D,if_neg (fun h=>by cases h.2.1)]
     rfl
    ·by_cases E:A.contains x=true
     ·rw[E,if_neg (fun h=>by cases h.2.2),Bool.or_true]
      rfl
     ·rw[Bool.not_eq_true]at D E
      rw[D,E,if_pos ⟨C,rfl,rfl⟩];rfl
   ·rw[if_neg C,if_neg (fun h=>C h.1)]
  rw[e]
theorem Dr(k:Int)(x:ByteArray):∀(ts:List ae) (i:Nat) (S:List (List ByteArray)) (B A:List ByteArray),S≠[]->yh S B->vN k x ts i B A=rT k x ts i S A
 | [],_,_,_,_,_,_=>by rw[vN,rT]
 | t::ts,i,[],B,A,h0,_=>absurd rfl h0
 | t::ts,i,l::S,B,A,_,h=>by
  rw[vN,rT]
  have E:xX t (if k=16/\i=2 then B++[x] else B) A=jd t (if k=16/\i=2 then [x]::l::S else l::S) A:=by
   by_cases C:k=16/\i=2
   ·rw[if_pos C,if_pos C]
    exact AL t _ _ A (h.top x)
   ·rw[if_neg C,if_neg C]
    exact AL t _ _ A h
  rw[E];by_cases D:t.kind=12
  ·rw[if_pos D,if_pos D]
   exact Dr k x ts (i+1) ((l++[t.text])::S) _ _ (by simp) (h.add t.text)
  ·rw[if_neg D,if_neg D]
   exact Dr k x ts (i+1) (l::S) _ _ (by simp) h
end
theorem free_same(t:ae):xX t [] []=jd t [] []:=AL t [] [] [] (fun _=>rfl)
theorem AY:∀{p:List Nat}{t y:ae},j6 t p=some y->pE t p<ai t
 | [],t,y,_=>by
  rw[pE];cases t
  rw[ai];omega
 | i::p,t,y,h=>by
  rw[j6]at h
  cases A:t.kids[i]? with
  | none=>rw[A]at h;cases h
  | some k=>
   rw[A]at h;have E:=AY (p:=p) (t:=k) h;have B:=gD t.kids i k A;have C:=iZ t.kids (i+1);have D:ai t=1+aD t.kids:=by cases t;rfl
   rw[pE,A];show 1+aD (t.kids.take i)+pE k p<_;omega
theorem Tq:∀(ks:List ae) (n i r:Nat) (k:ae),ks[i]? =some k->r<ai k->kP ks n (n+aD (ks.take i)+r)=(decide (k.kind=5)&&(match k.kids with| [b,c,_]=>decide (1+ai b+ai c<=r)|_=>false))
 | [],n,i,r,k,h,_=>by cases h
 | u::ks,n,0,r,k,h,hr=>by
  have C:u=k:=by simpa using h
  subst C;rw[kP,List.take_zero,if_pos (by show n+0+r<_;omega)];congr 1
  obtain⟨G,H,E,F,A⟩:=u
  match A with
  | [b,c,d]=>exact decide_eq_decide.2 (by show n+1+ai b+ai c<=n+0+r↔1+ai b+ai c<=r;omega)
  | []=>rfl
  | [_]=>rfl
  | [_,_]=>rfl
  | _::_::_::_::_=>rfl
 | u::ks,n,i+1,r,k,h,hr=>by
  have B:ks[i]? =some k:=by simpa using h
  have D:=Tq ks (n+ai u) i r k B hr;rw[kP,List.take_succ_cons,aD,if_neg (by omega)];rw[show n+(ai u+aD (ks.take i))+r=n+ai u+aD (ks.take i)+r by omega];exact D
def IC(t:ae)(p:List Nat):Bool:=match p with|i::j::_=>(match t.kids[i]? with|some k=>decide (k.kind=5)&&decide (j=2)|none=>false)|_=>false
theorem Na{t y:ae}{p:List Nat}(I:jC t=true)(h:j6 t p=some y):kP t.kids 1 (pE t p)=IC t p:=by
 unfold jC at I;rw[aad]at I;have G:=jG I.2
 match p,h with
 | [],_=>
  show kP t.kids 1 0=false;suffices h:∀(l:List ae) (n:Nat),1<=n->kP l n 0=false by exact h t.kids 1 (aab _)
  intro l
  induction l with
  | nil=>intro n _;rfl
  | cons k l ih=>
   intro n M;rw[kP,if_pos (by omega)];obtain⟨C,N,K,L,A⟩:=k;show(decide (C=5)&&match A with| [b,c,_]=>decide (n+1+ai b+ai c<=0)|_=>false)=false;rw[Bool.and_eq_false_iff];right
   split
   ·simp
   ·rfl
 | i::p,h=>
  rw[j6]at h
  cases B:t.kids[i]? with
  | none=>rw[B]at h;cases h
  | some k=>
   rw[B]at h;have F:=AY (p:=p) (t:=k) h;rw[pE,B];show kP t.kids 1 (1+aD (t.kids.take i)+pE k p)=_;rw[Tq t.kids 1 i (pE k p) k B F];have H:=G k (aan B);obtain⟨C,x,a,e,A⟩:=k;by_cases E:C=5
   rotate_left
   ·have J:decide ((ae.node C x a e A).kind=5)=false:=decide_eq_false E
    rw[J,Bool.false_and]
    match p with
    | []=>rfl
    | j::p=>
     show false=(match t.kids[i]? with|some k=>decide (k.kind=5)&&decide (j=2)|none=>false);rw[B];show false=(decide (C=5)&&_);rw[decide_eq_false E,Bool.false_and]
   subst E;obtain⟨b,c,d,rfl,-⟩:=Ez H;show(true&&decide (1+ai b+ai c<=pE (.node 5 x a e [b,c,d]) p))=_;rw[Bool.true_and]
   match p,h with
   | [],_=>
    show decide (1+ai b+ai c<=0)=false;exact decide_eq_false (by omega)
   | j::p,h=>
    show _=(match t.kids[i]? with|some k=>decide (k.kind=5)&&decide (j=2)|none=>false);rw[B];show _=(decide ((5:Int)=5)&&decide (j=2));rw[decide_eq_true (show(5:Int)=5 from rfl),Bool.true_and]
    match j,h with
    | 0,h=>
     have D:j6 b p=some y:=h;have:=AY D;show decide (_<=1+0+pE b p)=false;exact decide_eq_false (by omega)
    | 1,h=>
     have D:j6 c p=some y:=h;have:=AY D;show decide (_<=1+(ai b+0)+pE c p)=false;exact decide_eq_false (by omega)
    | 2,h=>
     show decide (_<=1+(ai b+(ai c+0))+pE d p)=true;exact decide_eq_true (by omega)
    | j+3,h=>cases h
theorem Ud(t:ae)(A:Option Addr)(c:Nat)(w:World)(r:ai t<=1000000)(W:aJ w w.heap.size A 0 t.kids):
 Calls Tryz.prog 20 #[aZ t A c] w fun e w'=> ∃v,e= .returned v/\aK w' w.heap.size 9 1 v (jd t [] []).length ((jd t [] []).flatMap bN)/\Below w.heap.size w w':=by
 obtain⟨L,x0,K,N,M,-,-,-,-,-,S⟩:=dR t A c;rw[S];obtain⟨Z,R⟩:∃Z,jd t [] []=Z:=⟨_,rfl⟩
 rw[R];go_in
 go_wp2_with fail
 obtain⟨E,C⟩:∃E,(((w.alloc (.cells #[.int .i64 L,.string x0,.int .i64 K,.int .i64 N,.slice A M c] 24)).alloc (.cells #[.slice none 0 0] 41)).alloc (.cells #[.func (.func 44) #[] #[.pointer (some ⟨w.heap.size+1,0,none⟩)]] 91)).alloc (.cells #[.func (.func 47) #[] #[.pointer (some ⟨w.heap.size+1+1,0,none⟩),.pointer (some ⟨w.heap.size+1+1+1,0,none⟩)]] 92)=E:=⟨_,rfl⟩
 rw[C]
 have U:aj E (w.heap.size+1) 41 #[.slice none 0 0]:=by
  rw[<- C];have:=((aj.new (w.alloc (.cells #[.int .i64 L,.string x0,.int .i64 K,.int .i64 N,.slice A M c] 24)) 41 #[.slice none 0 0]).alloc (.cells #[.func (.func 44) #[] #[.pointer (some ⟨w.heap.size+1,0,none⟩)]] 91)).alloc (.cells #[.func (.func 47) #[] #[.pointer (some ⟨w.heap.size+1+1,0,none⟩),.pointer (some ⟨w.heap.size+1+1+1,0,none⟩)]] 92);simpa using this
 have G:aj E (w.heap.size+1+1) 91 #[.func (.func 44) #[] #[.pointer (some ⟨w.heap.size+1,0,none⟩)]]:=by
  rw[<- C];have:=(aj.new ((w.alloc (.cells #[.int .i64 L,.string x0,.int .i64 K,.int .i64 N,.slice A M c] 24)).alloc (.cells #[.slice none 0 0] 41)) 91 #[.func (.func 44) #[] #[.pointer (some ⟨w.heap.size+1,0,none⟩)]]).alloc (.cells #[.func (.func 47) #[] #[.pointer (some ⟨w.heap.size+1+1,0,none⟩),.pointer (some ⟨w.heap.size+1+1+1,0,none⟩)]] 92);simpa using this
 have J:aj E (w.heap.size+1+1+1) 92 #[.func (.func 47) #[] #[.pointer (some ⟨w.heap.size+1+1,0,none⟩),.pointer (some ⟨w.heap.size+1+1+1,0,none⟩)]]:=by
  rw[<- C];have:=aj.new (((w.alloc (.cells #[.int .i64 L,.string x0,.int .i64 K,.int .i64 N,.slice A M c] 24)).alloc (.cells #[.slice none 0 0] 41)).alloc (.cells #[.func (.func 44) #[] #[.pointer (some ⟨w.heap.size+1,0,none⟩)]] 91)) 92 #[.func (.func 47) #[] #[.pointer (some ⟨w.heap.size+1+1,0,none⟩),.pointer (some ⟨w.heap.size+1+1+1,0,none⟩)]];simpa using this
 have D:Below w.heap.size w E:=by
  rw[<- C];exact(((((Below.refl _ w).alloc (aab _) _).alloc (by simp) _).alloc (by simp;omega) _).alloc (by simp;omega) _)
 have B:=free_n w.heap.size w.heap.size (w.heap.size+1) (w.heap.size+1+1) (w.heap.size+1+1+1) ⟨aab _,by omega⟩ (ai t) t (aab _) [] [] none [] [] A c E ⟨rfl,rfl⟩ (fun y=>rfl) (aJ.below D (aab _) _ _ _ W) D.size ⟨none,0,0,U,aK.nil _ _ _ _⟩ G J (by simpa using r);rw[S,R]at B;have T:=kH B;have F:=kH D;clear B D U G J C S R W;refine T.out.mono ?_;rintro n Y ⟨rfl,⟨z,X,u,P,Q⟩,V⟩;have H:Below w.heap.size w Y:=F.out.trans (V.low F.out.size (by omega) (aab _) (fun _ h=>h.elim));have I:X=Z.length:=by have:=Q.1;rw[Bo]at this;omega
 have q:=P.cell 0;have m:=P.lt;have x:Hid (aK Y w.heap.size 9 1 (.slice z X u) Z.length (Z.flatMap bN)):=kH (by rw[<- I];exact Q);have O:=kH H;clear P Q V H I T;go_wp2_with fail
 go_ret
 exact⟨_,rfl,x.out,O.out⟩
end Go.Proofs.YtoepemlnlpamlaaGreat
