/- The law NamesBack holds for every text and every number: it returns true, and its arguments read as before. No condition. Part 34: Fre2 Fre3. -/
import Derived.Test.YtoepemlnlpamlaaGreatBakk33
set_option maxRecDepth 100000
set_option maxHeartbeats 4000000
namespace Go.Proofs.YtoepemlnlpamlaaGreat
open Go.RowKit
def Nm(S:List (List ByteArray))(s:aK):Prop:=∀y,(S.any fun l=>l.contains y)=(bV s y).isSome
theorem Nm.push{S:List (List ByteArray)}{s:aK}(h:Nm S s):Nm ([]::S) ([]::s):=fun y=>by
 rw[List.any_cons,h y];rfl
theorem Nm.add{l:List ByteArray}{S:List (List ByteArray)}{lay:jr}{s:aK}(h:Nm (l::S) (lay::s))(x:ByteArray):Nm ((l++[x])::S) (cO lay x 0::s):=fun y=>by
 have hy:=h y;rw[List.any_cons,bV]at hy⊢;by_cases e:y=x
 ·have h1:aN (cO lay x 0) y=some 0:=by
   show bJ (cO lay x 0) y=some 0;rw[rP,if_pos e]
  have h2:(l++[x]).contains y=true:=by
   rw[List.contains_iff_mem];simp[e]
  rw[h1,h2];rfl
 ·have h1:aN (cO lay x 0) y=aN lay y:=by
   show bJ (cO lay x 0) y=bJ lay y;rw[rP,if_neg e]
  have h2:(l++[x]).contains y=l.contains y:=by
   rw[Bool.eq_iff_iff,List.contains_iff_mem,List.contains_iff_mem];simp[e]
  rw[h1,h2];exact hy
theorem NQ(l:List ByteArray)(x:ByteArray):nE l x=l.contains x:=by
 unfold nE;rw[Bool.eq_iff_iff,List.contains_iff_mem,List.any_eq_true];constructor
 ·rintro⟨y,hy,h⟩
  rw[beq_iff_eq,ByteArray.toList_eq,ByteArray.toList_eq]at h;rw[<- tQ h];exact hy
 ·intro h
  exact⟨x,h,by simp⟩
theorem addF_eq{S:List (List ByteArray)}{s:aK}(h:Nm S s)(x:ByteArray)(out:List ByteArray):Jh s x out=if (S.any fun l=>l.contains x) || out.contains x then out else out++[x]:=by
 unfold Jh;rw[h x,NQ]
theorem aac(s:aK)(x:ByteArray)(out:List ByteArray):(Jh s x out).length<=out.length+1:=by
 unfold Jh;split
 ·omega
 ·simp
mutual
theorem vB:∀(t:aa) (S:List (List ByteArray)) (out:List ByteArray),(ny t S out).length<=out.length+ah t
 | .node k x a e kids,S,out=>by
  rw[ny,ah];refine aaE (Nb k x kids 0 _ _) ?_;split
  ·split
   ·omega
   ·simp;omega
  ·omega
theorem Nb(k:Int)(x:ByteArray):∀(ts:List aa) (i:Nat) (S:List (List ByteArray)) (out:List ByteArray),(uO k x ts i S out).length<=out.length+ag ts
 | [],i,S,out=>by rw[uO,ag];omega
 | t::ts,i,S,out=>by
  rw[qJ,ag];refine aaE (Nb k x ts (i+1) _ _) ?_;have:=vB t (if k=16/\i=2 then [x]::S else S) out;omega
end
def Wh(B base ob ab vb:Nat)(t:aa):Prop:=
 ∀(S:List (List ByteArray)) (s:aK) (p:Option Addr) (ms:List Nat) (out:List ByteArray) (A:Option Addr) (c:Nat) (w:World),
  bK w base p s ms->Nm S s->aD w B A 0 t.kids->base<=w.heap.size->nU base ob out w ->
  ai w ab 91 #[.func (.func 44) #[] #[.pointer (some ⟨ob,0,none⟩)]]->ai w vb 92 #[.func (.func 47) #[] #[.pointer (some ⟨ab,0,none⟩),.pointer (some ⟨vb,0,none⟩)]]->out.length+ah t<=1000000 ->
  Calls Tryz.prog 47 #[aX t A c,.pointer p,.pointer (some ⟨ab,0,none⟩),.pointer (some ⟨vb,0,none⟩)] w fun e w'=>e= .returned (.tuple #[])/\nU base ob (ny t S out) w'/\FX base ob (fun _=>False) w w'
theorem nU.blk{base ob:Nat}{out:List ByteArray}{w:World}(h:nU base ob out w):∃cs,ai w ob 41 cs:=by
 obtain⟨A,n,c,h1,-⟩:=h;exact⟨_,h1⟩
theorem nU.nY{base ob:Nat}{out:List ByteArray}{w w':World}{m:Nat}(h:nU base ob out w)(hs:az (fun g=>g=m) w w')(ho:∃es ck,w.heap[m]? =some (.map es ck)):nU base ob out w':=by
 obtain⟨A,n,c,h1,h2⟩:=h;obtain⟨es,ck,ho⟩:=ho;refine⟨A,n,c,h1.since hs (fun e=>?_),h2.since hs (fun g hg e=>?_)⟩
 ·have:w.heap[ob]? =some (Obj.cells _ _ (0,0)):=h1
  rw[e,ho]at this;cases this
 ·obtain⟨cur,hc⟩:=h2.obj g hg
  rw[e,ho]at hc;cases hc
theorem bK.store{base:Nat}{w w':World}{b m:Nat}{lay lay2:jr}{s:aK}{ms:List Nat}(h:bK w base (some ⟨b,0,none⟩) (lay::s) (m::ms))(hs:az (fun g=>g=m) w w')(hm:aZ jg w' m (jF lay2))(hn:m ∉ ms):bK w' base (some ⟨b,0,none⟩) (lay2::s) (m::ms):=by
 obtain⟨b',m',p2,ms',h1,h2,h3,h4,h5,h6,h7⟩:=h;simp only[List.cons.injEq]at h2;obtain⟨rfl,rfl⟩:=h2;simp only[aaI,Addr.mk.injEq,and_true]at h1;subst h1;obtain⟨es,ck,ho⟩:=h6.isMap
 have hcell:∀g t cs,ai w g t cs->g≠m:=fun g t cs hb e=>by
  have:w.heap[g]? =some (Obj.cells _ _ (0,0)):=hb;rw[e,ho]at this;cases this
 have hrest:∀{s:aK}{p:Option Addr}{ms:List Nat},bK w base p s ms->m ∉ ms->bK w' base p s ms:=by
  intro s
  induction s with
  | nil=>exact fun h _=>h
  | cons x s ih=>
   rintro p ms ⟨b,m1,p',ms1,e1,e2,e3,e4,e5,e6,e7⟩ hn;subst e2;rw[List.mem_cons,not_or]at hn;exact⟨b,m1,p',ms1,e1,rfl,e3,e4,e5.since hs (hcell _ _ _ e5),e6.since hs (fun e=>hn.1 e.symm),ih e7 hn.2⟩
 exact⟨b,m,p2,ms,rfl,rfl,h3,h4,h5.since hs (hcell _ _ _ h5),hm,hrest h7 hn⟩
theorem XO(B base ob ab vb:Nat)(hB:B<=base/\B<=ob)(k0:Int)(x0:ByteArray)(a0 z0:Int)(kids:List aa)(hih:∀u∈kids,Wh B base ob ab vb u):Wh B base ob ab vb (.node k0 x0 a0 z0 kids):=by
 intro S s p ms out A c w hs hnm hk hb ho hab hvb hm;obtain⟨n,hn⟩:∃q,kids.length=q:=⟨_,rfl⟩
 unfold aX;have rT:(aa.node k0 x0 a0 z0 kids).kind=k0/\(aa.node k0 x0 a0 z0 kids).text=x0/\(aa.node k0 x0 a0 z0 kids).at_=a0/\(aa.node k0 x0 a0 z0 kids).end_=z0/\(aa.node k0 x0 a0 z0 kids).kids=kids:=⟨rfl,rfl,rfl,rfl,rfl⟩
 rw[rT.1,rT.2.1,rT.2.2.1,rT.2.2.2.1,rT.2.2.2.2,hn];rw[rT.2.2.2.2]at hk;rw[ny,<- addF_eq hnm];obtain⟨O1,uM⟩:∃q,(if k0=20 then Jh s x0 out else out)=q:=⟨_,rfl⟩
 rw[uM];obtain⟨FIN,L9⟩:∃q,uO k0 x0 kids 0 ([]::S) O1=q:=⟨_,rfl⟩
 rw[L9]
 have hml:O1.length+ag kids<=1000000:=by
  rw[ah]at hm;rw[<- uM];split
  ·have:=aac s x0 out
   omega
  ·omega
 have hnm1:n<=1000000:=by have:=kC kids;omega
 have HOO:=kH uM;have HFI:=kH L9;have HML:=kH hml;have HS:=kH hs;have HNMM:=kH hnm;have HK:=kH hk;have HO:=kH ho;have HA:=kH hab;have HV:=kH hvb;have HN:=kH hn;have eH:=kH hih;have jc:Hid (B<=base/\B<=ob/\base<=w.heap.size):=kH ⟨hB.1,hB.2,hb⟩;have HM:Hid (out.length<=1000000):=kH (by omega);have c0:=hab.cell 0;have la:=hab.lt;clear uM L9 hs hnm hk ho hab hvb hn hih hm hml rT hb hB;go_enter Tryz.func47,Tryz.ntmps47
 go_upto_if 11 with fail
 generalize hW1:w.alloc (.cells #[.int .i64 k0,.string x0,.int .i64 a0,.int .i64 z0,.slice A n c] 24)=W1
 have hb1:Below w.heap.size w W1:=by rw[<- hW1];exact af _ _
 have hN1:ai W1 w.heap.size 24 #[.int .i64 k0,.string x0,.int .i64 a0,.int .i64 z0,.slice A n c]:=by rw[<- hW1];exact ai.new w _ _
 have HB1:=kH hb1;have Ny:=kH hN1;have c1:=hN1.cell 1;have l1:=hN1.lt;have hA1:=HA.out.below hb1 HA.out.lt;have d0:=hA1.cell 0;have d1:=hA1.lt;clear hW1 hb1 hN1 c0 la;go_cut [] (fun wx=>Hid (nU base ob O1 wx)/\Hid (FX base ob (fun _=>False) W1 wx))
 case first=>
  by_cases h20:k0=20
  ·subst h20
   have hadd:=add_any base ob out s p ms x0 W1 (bK.below HB1.out HS.out) (HO.out.below HB1.out) (aaE jc.out.2.2 HB1.out.size) HM.out;have HADD:=kH hadd;clear hadd hA1;go_wp2_with fail
   refine HADD.out.mono ?_;rintro e2 w2 ⟨rfl,h2,h3⟩;have H2:Hid (nU base ob O1 w2):=kH (by rw[<- HOO.out,if_pos (by first|trivial|rfl)];exact h2);have H3:=kH h3;clear h2 h3;go_wp2_with fail
   go_meet
   exact⟨H2,H3⟩
  ·have oq:(k0==20)=false:=by simp[h20]
   have H2:Hid (nU base ob O1 W1):=kH (by rw[<- HOO.out,if_neg h20];exact HO.out.below HB1.out);clear h20 hA1;go_wp2_with fail
   go_meet
   exact⟨H2,kH (FX.refl _ _ _ _)⟩
 case rest=>
  obtain⟨xm,yB⟩:=hcut;obtain⟨cs1,PR⟩:=(HO.out.below HB1.out).blk;have hsc:=FX.sc yB.out PR (fun _ _ _ _ h=>h) (bK.below HB1.out HS.out) (fun _ _ h=>h);have hNc:=yB.out.blk Ny.out (by decide) (Ny.out.ne_of PR (by decide)) (fun h=>h);have hAc:=yB.out.blk hA1 (by decide) (hA1.ne_of PR (by decide)) (fun h=>h);have hV1:=HV.out.below HB1.out HV.out.lt;have hVc:=yB.out.blk hV1 (by decide) (hV1.ne_of PR (by decide)) (fun h=>h);have Ym:=kH hsc;have HNC:=kH hNc;have Cs:=kH hAc;have HVC:=kH hVc;have HZ:Hid (w.heap.size<=wc.heap.size):=kH (aaE HB1.out.size yB.out.size);clear hsc hNc hAc hVc hV1 hA1 PR d0 d1 c1 l1;go_wp2_with fail
  refine(EJ p wc).mono ?_;rintro e3 w3 ⟨b,m,rfl,hbb,hmm,hblk,gQ,hbel⟩;have IY:base<=wc.heap.size:=aaE jc.out.2.2 HZ.out;have iF:Hid (bK w3 base (some ⟨b,0,none⟩) ([]::s) (m::ms)):=kH ⟨b,m,p,ms,rfl,rfl,aaE IY hbb,aaE IY hmm,hblk,gQ,Ym.out.below hbel⟩
  have HMN:Hid (m ∉ ms):=kH (fun h=>by
   have h1:∀{s:aK}{p:Option Addr}{ms:List Nat},bK wc base p s ms->∀m∈ms,m<wc.heap.size:=by
    intro s
    induction s with
    | nil=>intro p ms h m hm;rw[h.2]at hm;cases hm
    | cons x s ih=>
     rintro p ms ⟨b,m1,p',ms1,e1,e2,e3,e4,e5,e6,e7⟩ m hm;rw[e2]at hm;rcases List.mem_cons.1 hm with rfl|hm
     ·exact e6.lt
     ·exact ih e7 m hm
   have:=h1 Ym.out m h
   omega)
  have HO3:=kH (xm.out.below hbel);have mi:=kH (HNC.out.below hbel HNC.out.lt);have HA3:=kH (Cs.out.below hbel Cs.out.lt);have fw:=kH (HVC.out.below hbel HVC.out.lt);have HX3:Hid (FX base ob (fun _=>False) w w3):=kH (((FX.of_below HB1.out).trans yB.out (fun g hg=>.inl hg)).trans (FX.of_below (M:=fun _=>False) hbel) (fun g hg=>.inl hg));have TD:Hid (w.heap.size<=m/\w.heap.size<=w3.heap.size/\base<=w3.heap.size/\base<=m):=kH ⟨aaE HZ.out hmm,aaE HZ.out hbel.size,aaE IY hbel.size,aaE IY hmm⟩;have n4:=mi.out.cell 4;have ln:=mi.out.lt;clear hblk gQ hbel hbb hmm IY;go_wp2_with fail
  clear n4 ln
  go_loopg [22] n (fun gk s22 wr=> ∃(j:Nat) (l:List ByteArray) (lay:jr) (out':List ByteArray),s22= .int .i64 (j:Int)/\j+gk=n/\Hid (bK wr base (some ⟨b,0,none⟩) (lay::s) (m::ms))/\Hid (Nm (l::S) (lay::s))/\Hid (nU base ob out' wr)/\Hid (FX base ob (fun g=>g=m) w3 wr) /\
   Hid (ai wr w.heap.size 24 #[.int .i64 k0,.string x0,.int .i64 a0,.int .i64 z0,.slice A n c])/\Hid (ai wr ab 91 #[.func (.func 44) #[] #[.pointer (some ⟨ob,0,none⟩)]])/\Hid (ai wr vb 92 #[.func (.func 47) #[] #[.pointer (some ⟨ab,0,none⟩),.pointer (some ⟨vb,0,none⟩)]]) /\
   Hid (uO k0 x0 (kids.drop j) j (l::S) out'=FIN)/\Hid (out'.length+ag (kids.drop j)<=1000000))
  case atStart=>exact⟨0,[],[],O1,rfl,by omega,iF,kH HNMM.out.push,HO3,kH (FX.refl _ _ _ _),mi,HA3,fw,HFI,HML⟩
  case round=>
   obtain⟨j,l,lay,out',rfl,hj,HSR,vO,HOR,HXR,Ra,HAR,HVR,iP,HLEN⟩:=hrel;by_cases hlt:j<n
   ·have hlt':(j:Int)<(n:Int):=by omega
    have hw:IntKind.i64.wrap ((j:Int)+1)=(j:Int)+1:=IntWalk.i64_in _ (by omega);obtain⟨u,hu⟩:∃u,kids[j]? =some u:=⟨_,aaH (by rw[HN.out];exact hlt)⟩
    have HDR:Hid (kids.drop j=u::kids.drop (j+1)):=kH (by
     obtain⟨h1,h2⟩:=aaJ.1 hu
     rw[List.drop_eq_getElem_cons h1,h2])
    have hbW:Below B w wr:=(HX3.out.low (aaE jc.out.1 jc.out.2.2) jc.out.2.1 jc.out.1 (fun _ h=>h.elim)).trans (HXR.out.low (aaE jc.out.1 TD.out.2.2.1) jc.out.2.1 jc.out.1 (fun g hg=>by rw[hg];exact aaE jc.out.1 TD.out.2.2.2));have hkr:aD wr B A 0 kids:=aD.below hbW (aaD _) _ _ _ HK.out;obtain⟨vals,⟨bk,off,hA,hbl,hcs⟩,hT⟩:=hkr.get j u hu;obtain⟨A',c',nO,hK'⟩:=hT.five;subst hA;subst nO;have hsz:w3.heap.size<=wr.heap.size:=HXR.out.size;have hbb:bk<wr.heap.size:=by have:=jc.out;have:=TD.out;omega
    obtain⟨uk,DD⟩:∃q,u.kind=q:=⟨_,rfl⟩
    obtain⟨ux,yO⟩:∃q,u.text=q:=⟨_,rfl⟩
    obtain⟨ua,GQ⟩:∃q,u.at_=q:=⟨_,rfl⟩
    obtain⟨uz,GN⟩:∃q,u.end_=q:=⟨_,rfl⟩
    obtain⟨un,hun⟩:∃q,u.kids.length=q:=⟨_,rfl⟩
    have hcs':∀q v,[Value.int .i64 uk,.string ux,.int .i64 ua,.int .i64 uz,.slice A' un c'][q]? =some v->wr.cell? ⟨bk,off+j*5+q,none⟩=some v:=fun q v hq=>by
     have:=hcs q v (by rw[DD,yO,GQ,GN,hun];exact hq);rw[show off+(0+j)*5+q=off+j*5+q by omega]at this;exact this
    have t0:wr.cell? ⟨bk,off+j*5,none⟩=some (.int .i64 uk):=by simpa using hcs' 0 _ rfl
    have t1:wr.cell? ⟨bk,off+j*5+1,none⟩=some (.string ux):=by simpa using hcs' 1 _ rfl
    have t2:wr.cell? ⟨bk,off+j*5+2,none⟩=some (.int .i64 ua):=by simpa using hcs' 2 _ rfl
    have t3:wr.cell? ⟨bk,off+j*5+3,none⟩=some (.int .i64 uz):=by simpa using hcs' 3 _ rfl
    have t4:wr.cell? ⟨bk,off+j*5+4,none⟩=some (.slice A' un c'):=by simpa using hcs' 4 _ rfl
    have hmem:u∈kids:=aaP hu;have K8:Hid (u.kind=uk/\u.text=ux):=kH ⟨DD,yO⟩;obtain⟨X,hX⟩:∃X,wr.alloc (.cells #[.int .i64 uk,.string ux,.int .i64 ua,.int .i64 uz,.slice A' un c'] 24)=X:=⟨_,rfl⟩
    have hbX:Below wr.heap.size wr X:=by rw[<- hX];exact af _ _
    have Ku:ai X wr.heap.size 24 #[.int .i64 uk,.string ux,.int .i64 ua,.int .i64 uz,.slice A' un c']:=by rw[<- hX];exact ai.new wr _ _
    have bD:=kH (Ra.out.below hbX Ra.out.lt);have Lx:=kH (HAR.out.below hbX HAR.out.lt);have Co:=kH (HVR.out.below hbX HVR.out.lt);have Ah:=kH (HSR.out.below hbX);have HOX:=kH (HOR.out.below hbX);have HXX:Hid (FX base ob (fun g=>g=m) w3 X):=kH (HXR.out.trans (FX.of_below (M:=fun _=>False) hbX) (fun g hg=>hg.elim));have HUX:=kH Ku;have mq:Hid (aD X B A' 0 u.kids):=kH (aD.below hbX (by have:=jc.out;have:=TD.out;omega) _ _ _ hK');have HXZ:Hid (base<=X.heap.size/\wr.heap.size<X.heap.size):=kH ⟨by have:=TD.out;have:=hbX.size;omega,Ku.lt⟩;have HUI:Hid (aX u A' c'= .agg #[.int .i64 uk,.string ux,.int .i64 ua,.int .i64 uz,.slice A' un c']):=kH (by unfold aX;rw[DD,yO,GQ,GN,hun])
    have HLU:Hid (out'.length+ah u<=1000000):=kH (by
     have h1:=HLEN.out;rw[HDR.out,ag]at h1
     omega)
    have HME:=kH hmem;have q0:=bD.out.cell 0;have q1:=bD.out.cell 1;have lq:=bD.out.lt;have y0:=Ku.cell 0;have y1:=Ku.cell 1;have y2:=Ku.cell 2;have y3:=Ku.cell 3;have y4:=Ku.cell 4;have ly:=Ku.lt;have v0:=Co.out.cell 0;have lv:=Co.out.lt;clear hcs hcs' hT hK' hkr hbW hu hmem DD yO GQ GN hun Ku hbX;by_cases h16:k0=16/\j=2
    ·obtain⟨SI,Qz⟩:∃SI,[x0]::(l::S)=SI:=⟨_,rfl⟩
     have Q6:Hid ((if k0=16/\j=2 then [x0]::(l::S) else l::S)=SI):=kH (by rw[if_pos h16];exact Qz);have hg1:(k0==16)=true:=by simp[h16.1]
     have hg2:((j:Int)==2)=true:=by simp[h16.2]
     clear h16;go_wp2_with (rw[hX])
     refine(EJ (some ⟨b,0,none⟩) X).mono ?_;rintro e5 w5 ⟨b2,m2,rfl,ZG,Zo,hblk2,Qn,Kr⟩;have hd1:=hblk2.cell 1;have hdl:=hblk2.lt;have DR:=bD.out.below Kr bD.out.lt;have x1:=DR.cell 1;have lx:=DR.lt;obtain⟨w6,hrun,gu,Qd,hz6⟩:=fe (P:=Tryz.prog) (KK:=jg) (t:=70) (kt:=9) (et:=3) Tryz.underlying70 Tryz.underlying9 (Qn.drew) x0 (.int .i64 0);change (Instr.mapUpdate 70 (.map (some m2)) (Value.string x0) (.int .i64 0)).run Tryz.prog w5.drew=_ at hrun;have hm6':aZ jg w6 m2 (jF [(x0,0)]):=gu;have hs6:az (fun g=>g=m2) w5 w6:=((az.refl (fun g=>g=m2) w5).drew).grown Qd (fun k hk=>by cases hk;exact .inl rfl);have hb6:Below X.heap.size X w6:=Kr.trans (hs6.toBelow Kr.size (fun g hg=>by rw[hg];exact Zo));have hbase:=HXZ.out.1
     have qK:bK w6 base (some ⟨b2,0,none⟩) ([(x0,0)]::(lay::s)) (m2::(m::ms)):=by
      refine bK.store (lay:=[]) ⟨b2,m2,some ⟨b,0,none⟩,m::ms,rfl,rfl,aaE hbase ZG,aaE hbase Zo,hblk2,Qn,Ah.out.below Kr⟩ hs6 hm6' (fun h=>?_)
      have h1:∀{s:aK}{p:Option Addr}{ms:List Nat},bK X base p s ms->∀m∈ms,m<X.heap.size:=by
       intro s
       induction s with
       | nil=>intro p ms h m hm;rw[h.2]at hm;cases hm
       | cons x s ih=>
        rintro p ms ⟨b,m1,p',ms1,e1,e2,e3,e4,e5,e6,e7⟩ m hm;rw[e2]at hm;rcases List.mem_cons.1 hm with rfl|hm
        ·exact e6.lt
        ·exact ih e7 m hm
      have:=h1 Ah.out m2 h;omega
     have D8:Hid (bK w6 base (some ⟨b,0,none⟩) (lay::s) (m::ms)):=kH (Ah.out.below hb6);have xh:=kH (HUX.out.below hb6 HUX.out.lt);have kU:=kH (bD.out.below hb6 bD.out.lt);have Ed:=kH (Lx.out.below hb6 Lx.out.lt);have yV:=kH (Co.out.below hb6 Co.out.lt);have Yw:=kH (HOX.out.below hb6);have HXB:Hid (FX base ob (fun g=>g=m) w3 w6):=kH (HXX.out.trans (FX.of_below (M:=fun _=>False) hb6) (fun g hg=>hg.elim));have hcall:=eH.out u HME.out SI ([(x0,0)]::(lay::s)) (some ⟨b2,0,none⟩) (m2::(m::ms)) out' A' c' w6 qK (by rw[<- Qz];exact vO.out.push.add x0) (aD.below hb6 (by have:=jc.out;have:=HXZ.out;omega) _ _ _ mq.out) (aaE hbase hb6.size) Yw.out Ed.out yV.out HLU.out;rw[HUI.out]at hcall;have HC:=kH hcall;have z0:=xh.out.cell 0;have z1:=xh.out.cell 1;have z2:=xh.out.cell 2;have z3:=xh.out.cell 3;have z4:=xh.out.cell 4;have lz:=xh.out.lt;have g0:=yV.out.cell 0;have lg:=yV.out.lt;clear hcall qK gu hm6' Qd hz6 hs6 hb6 hblk2 Qn Kr ZG Zo DR hX Qz y0 y1 y2 y3 y4 ly v0 lv q0 q1 lq t0 t1 t2 t3 t4 hbase;go_wp2_with fail
     refine fT (fun w'=>w'.cell? ⟨b2,1,none⟩=some (.map (some m2))/\w'.cell? ⟨w.heap.size,1,none⟩=some (.string x0)) [6] [true,true,true,true,true,true,false] (by kernel_rfl) (by kernel_rfl) rfl (by kernel_rfl) ?_;have hS0:w5.drew.cell? ⟨b2,1,none⟩=some (.map (some m2))/\w5.drew.cell? ⟨w.heap.size,1,none⟩=some (.string x0):=⟨hd1,x1⟩
     iterate 6(refine jI rfl hS0 (by intro w' hSw;obtain⟨hs1,hs2⟩:=hSw;go_simp;rfl) ?_;simp only[Act.put,sA,sZ,sC])
     refine kG (w':=w6) rfl (by simp[execOp,Act.eval,hrun,Result.andThen]) (by simp) ?_;refine ll ?_;simp only[Act.put];clear hS0 hd1 hdl x1 lx hrun;go_wp2_with fail
     refine HC.out.mono ?_;clear z0 z1 z2 z3 z4 lz g0 lg HC;rintro e7 w7 ⟨rfl,h7,k7⟩;obtain⟨csB,tu⟩:=Yw.out.blk;have hs7:=FX.sc k7 tu (fun _ _ _ _ h=>h) D8.out (fun _ _ h=>h);have ym:=k7.blk xh.out (by decide) (xh.out.ne_of tu (by decide)) (fun h=>h);have wZ:=k7.blk kU.out (by decide) (kU.out.ne_of tu (by decide)) (fun h=>h);have E5:=k7.blk Ed.out (by decide) (Ed.out.ne_of tu (by decide)) (fun h=>h);have hv7:=k7.blk yV.out (by decide) (yV.out.ne_of tu (by decide)) (fun h=>h);have hx7:=HXB.out.trans k7 (fun g hg=>hg.elim);have u0:=ym.cell 0;have u1:=ym.cell 1;have lu:=ym.lt;have Bc:=kH h7;have Nu:=kH hs7;have Ao:=kH wZ;have FN:=kH E5;have kY:=kH hv7;have rf:=kH hx7;by_cases h12:uk=12
     ·subst h12
      obtain⟨b',m',p2,vY,hb',hm',-,-,hsb,hsm,-⟩:=hs7;simp only[List.cons.injEq]at hm';obtain⟨rfl,rfl⟩:=hm';simp only[aaI,Addr.mk.injEq,and_true]at hb';subst hb';have d1:=hsb.cell 1;have ld:=hsb.lt;obtain⟨w8,hrun,dP,M6,Pw⟩:=fe (P:=Tryz.prog) (KK:=jg) (t:=70) (kt:=9) (et:=3) Tryz.underlying70 Tryz.underlying9 (hsm.drew) ux (.int .i64 0);change (Instr.mapUpdate 70 (.map (some m)) (Value.string ux) (.int .i64 0)).run Tryz.prog w7.drew=_ at hrun;rw[xB]at dP;have iZ:az (fun g=>g=m) w7 w8:=((az.refl (fun g=>g=m) w7).drew).grown M6 (fun k hk=>by cases hk;exact .inl rfl);have Ai:Hid (bK w8 base (some ⟨b,0,none⟩) (cO lay ux 0::s) (m::ms)):=kH (bK.store Nu.out iZ dP HMN.out);have yC:Hid (nU base ob (ny u SI out') w8):=kH (Bc.out.nY iZ hsm.isMap);have iA:Hid (FX base ob (fun g=>g=m) w3 w8):=kH (rf.out.trans (FX.nY iZ) (fun g hg=>.inl hg))
      have vL:∀g t cs,ai w7 g t cs->g≠m:=fun g t cs hb e=>by
       obtain⟨es,ck,ho⟩:=hsm.isMap;have:w7.heap[g]? =some (Obj.cells _ _ (0,0)):=hb;rw[e,ho]at this;cases this
      have Yu:=kH (Ao.out.since iZ (vL _ _ _ Ao.out));have Yt:=kH (FN.out.since iZ (vL _ _ _ FN.out));have Yr:=kH (kY.out.since iZ (vL _ _ _ kY.out));clear hsb hsm dP M6 Pw iZ vL h7 wZ E5 hv7 hx7 k7;go_wp2_with fail
      refine fT (fun w'=>w'.cell? ⟨b,1,none⟩=some (.map (some m))/\w'.cell? ⟨wr.heap.size,1,none⟩=some (.string ux)) [6] [true,true,true,true,true,true,false] (by kernel_rfl) (by kernel_rfl) rfl (by kernel_rfl) ?_;have hS0:w7.drew.cell? ⟨b,1,none⟩=some (.map (some m))/\w7.drew.cell? ⟨wr.heap.size,1,none⟩=some (.string ux):=⟨d1,u1⟩
      iterate 6(refine jI rfl hS0 (by intro w' hSw;obtain⟨hs1,hs2⟩:=hSw;go_simp;rfl) ?_;simp only[Act.put,sA,sZ,sC])
      refine kG (w':=w8) rfl (by simp[execOp,Act.eval,hrun,Result.andThen]) (by simp) ?_;refine ll ?_;simp only[Act.put];clear hS0 d1 u0 u1 lu hrun ym;go_wp2_with fail
      go_roundg (gk - 1)
      case measure=>omega
      case rel=>
       refine⟨j+1,l++[ux],cO lay ux 0,ny u SI out',by simp,by omega,Ai,kH (vO.out.add ux),yC,iA,Yu,Yt,Yr,kH ?_,kH ?_⟩
       ·rw[<- iP.out,HDR.out,qJ,<- Q6.out]
        congr 1
        unfold Jg;rw[if_pos K8.out.1,K8.out.2]
       ·have h1:=HLEN.out
        rw[HDR.out,ag]at h1;have h2:=vB u SI out';omega
     ·have oq:(uk==12)=false:=by simp[h12]
      have oN:=kH h12;clear h7 hs7 wZ E5 hv7 hx7 k7 ym h12;go_wp2_with fail
      go_roundg (gk - 1)
      case measure=>omega
      case rel=>
       refine⟨j+1,l,lay,ny u SI out',by simp,by omega,Nu,vO,Bc,rf,Ao,FN,kY,kH ?_,kH ?_⟩
       ·rw[<- iP.out,HDR.out,qJ,<- Q6.out]
        congr 1
        unfold Jg;rw[if_neg (by rw[K8.out.1];exact oN.out)]
       ·have h1:=HLEN.out
        rw[HDR.out,ag]at h1;have h2:=vB u SI out';omega
    ·obtain⟨SI,Qz⟩:∃SI,l::S=SI:=⟨_,rfl⟩
     have Q6:Hid ((if k0=16/\j=2 then [x0]::(l::S) else l::S)=SI):=kH (by rw[if_neg h16];exact Qz);have D8:=Ah;have xh:=HUX;have kU:=bD;have Ed:=Lx;have yV:=Co;have Yw:=HOX;have HXB:=HXX;have hcall:=eH.out u HME.out SI (lay::s) (some ⟨b,0,none⟩) (m::ms) out' A' c' X Ah.out (by rw[<- Qz];exact vO.out) mq.out HXZ.out.1 HOX.out Lx.out Co.out HLU.out;rw[HUI.out]at hcall;have HC:=kH hcall
     have hg16:(k0==16)=false\/((k0==16)=true/\((j:Int)==2)=false):=by
      by_cases h1:k0=16
      ·right
       refine⟨by simp[h1],?_⟩;have:j≠2:=fun e=>h16 ⟨h1,e⟩
       simp;omega
      ·left
       simp[h1]
     clear hcall Qz h16;rcases hg16 with hg1| ⟨hg1,hg2⟩
     ·go_wp2_with (rw[hX])
      refine HC.out.mono ?_;clear y0 y1 y2 y3 y4 ly v0 lv q0 q1 lq t0 t1 t2 t3 t4 HC hX;rintro e7 w7 ⟨rfl,h7,k7⟩;obtain⟨csB,tu⟩:=Yw.out.blk;have hs7:=FX.sc k7 tu (fun _ _ _ _ h=>h) D8.out (fun _ _ h=>h);have ym:=k7.blk xh.out (by decide) (xh.out.ne_of tu (by decide)) (fun h=>h);have wZ:=k7.blk kU.out (by decide) (kU.out.ne_of tu (by decide)) (fun h=>h);have E5:=k7.blk Ed.out (by decide) (Ed.out.ne_of tu (by decide)) (fun h=>h);have hv7:=k7.blk yV.out (by decide) (yV.out.ne_of tu (by decide)) (fun h=>h);have hx7:=HXB.out.trans k7 (fun g hg=>hg.elim);have u0:=ym.cell 0;have u1:=ym.cell 1;have lu:=ym.lt;have Bc:=kH h7;have Nu:=kH hs7;have Ao:=kH wZ;have FN:=kH E5;have kY:=kH hv7;have rf:=kH hx7;by_cases h12:uk=12
      ·subst h12
       obtain⟨b',m',p2,vY,hb',hm',-,-,hsb,hsm,-⟩:=hs7;simp only[List.cons.injEq]at hm';obtain⟨rfl,rfl⟩:=hm';simp only[aaI,Addr.mk.injEq,and_true]at hb';subst hb';have d1:=hsb.cell 1;have ld:=hsb.lt;obtain⟨w8,hrun,dP,M6,Pw⟩:=fe (P:=Tryz.prog) (KK:=jg) (t:=70) (kt:=9) (et:=3) Tryz.underlying70 Tryz.underlying9 (hsm.drew) ux (.int .i64 0);change (Instr.mapUpdate 70 (.map (some m)) (Value.string ux) (.int .i64 0)).run Tryz.prog w7.drew=_ at hrun;rw[xB]at dP;have iZ:az (fun g=>g=m) w7 w8:=((az.refl (fun g=>g=m) w7).drew).grown M6 (fun k hk=>by cases hk;exact .inl rfl);have Ai:Hid (bK w8 base (some ⟨b,0,none⟩) (cO lay ux 0::s) (m::ms)):=kH (bK.store Nu.out iZ dP HMN.out);have yC:Hid (nU base ob (ny u SI out') w8):=kH (Bc.out.nY iZ hsm.isMap);have iA:Hid (FX base ob (fun g=>g=m) w3 w8):=kH (rf.out.trans (FX.nY iZ) (fun g hg=>.inl hg))
       have vL:∀g t cs,ai w7 g t cs->g≠m:=fun g t cs hb e=>by
        obtain⟨es,ck,ho⟩:=hsm.isMap;have:w7.heap[g]? =some (Obj.cells _ _ (0,0)):=hb;rw[e,ho]at this;cases this
       have Yu:=kH (Ao.out.since iZ (vL _ _ _ Ao.out));have Yt:=kH (FN.out.since iZ (vL _ _ _ FN.out));have Yr:=kH (kY.out.since iZ (vL _ _ _ kY.out));clear hsb hsm dP M6 Pw iZ vL h7 wZ E5 hv7 hx7 k7;go_wp2_with fail
       refine fT (fun w'=>w'.cell? ⟨b,1,none⟩=some (.map (some m))/\w'.cell? ⟨wr.heap.size,1,none⟩=some (.string ux)) [6] [true,true,true,true,true,true,false] (by kernel_rfl) (by kernel_rfl) rfl (by kernel_rfl) ?_;have hS0:w7.drew.cell? ⟨b,1,none⟩=some (.map (some m))/\w7.drew.cell? ⟨wr.heap.size,1,none⟩=some (.string ux):=⟨d1,u1⟩
       iterate 6(refine jI rfl hS0 (by intro w' hSw;obtain⟨hs1,hs2⟩:=hSw;go_simp;rfl) ?_;simp only[Act.put,sA,sZ,sC])
       refine kG (w':=w8) rfl (by simp[execOp,Act.eval,hrun,Result.andThen]) (by simp) ?_;refine ll ?_;simp only[Act.put];clear hS0 d1 u0 u1 lu hrun ym;go_wp2_with fail
       go_roundg (gk - 1)
       case measure=>omega
       case rel=>
        refine⟨j+1,l++[ux],cO lay ux 0,ny u SI out',by simp,by omega,Ai,kH (vO.out.add ux),yC,iA,Yu,Yt,Yr,kH ?_,kH ?_⟩
        ·rw[<- iP.out,HDR.out,qJ,<- Q6.out]
         congr 1
         unfold Jg;rw[if_pos K8.out.1,K8.out.2]
        ·have h1:=HLEN.out
         rw[HDR.out,ag]at h1;have h2:=vB u SI out';omega
      ·have oq:(uk==12)=false:=by simp[h12]
       have oN:=kH h12;clear h7 hs7 wZ E5 hv7 hx7 k7 ym h12;go_wp2_with fail
       go_roundg (gk - 1)
       case measure=>omega
       case rel=>
        refine⟨j+1,l,lay,ny u SI out',by simp,by omega,Nu,vO,Bc,rf,Ao,FN,kY,kH ?_,kH ?_⟩
        ·rw[<- iP.out,HDR.out,qJ,<- Q6.out]
         congr 1
         unfold Jg;rw[if_neg (by rw[K8.out.1];exact oN.out)]
        ·have h1:=HLEN.out
         rw[HDR.out,ag]at h1;have h2:=vB u SI out';omega
     ·go_wp2_with (rw[hX])
      refine HC.out.mono ?_;clear y0 y1 y2 y3 y4 ly v0 lv q0 q1 lq t0 t1 t2 t3 t4 HC hX;rintro e7 w7 ⟨rfl,h7,k7⟩;obtain⟨csB,tu⟩:=Yw.out.blk;have hs7:=FX.sc k7 tu (fun _ _ _ _ h=>h) D8.out (fun _ _ h=>h);have ym:=k7.blk xh.out (by decide) (xh.out.ne_of tu (by decide)) (fun h=>h);have wZ:=k7.blk kU.out (by decide) (kU.out.ne_of tu (by decide)) (fun h=>h);have E5:=k7.blk Ed.out (by decide) (Ed.out.ne_of tu (by decide)) (fun h=>h);have hv7:=k7.blk yV.out (by decide) (yV.out.ne_of tu (by decide)) (fun h=>h);have hx7:=HXB.out.trans k7 (fun g hg=>hg.elim);have u0:=ym.cell 0;have u1:=ym.cell 1;have lu:=ym.lt;have Bc:=kH h7;have Nu:=kH hs7;have Ao:=kH wZ;have FN:=kH E5;have kY:=kH hv7;have rf:=kH hx7;by_cases h12:uk=12
      ·subst h12
       obtain⟨b',m',p2,vY,hb',hm',-,-,hsb,hsm,-⟩:=hs7;simp only[List.cons.injEq]at hm';obtain⟨rfl,rfl⟩:=hm';simp only[aaI,Addr.mk.injEq,and_true]at hb';subst hb';have d1:=hsb.cell 1;have ld:=hsb.lt;obtain⟨w8,hrun,dP,M6,Pw⟩:=fe (P:=Tryz.prog) (KK:=jg) (t:=70) (kt:=9) (et:=3) Tryz.underlying70 Tryz.underlying9 (hsm.drew) ux (.int .i64 0);change (Instr.mapUpdate 70 (.map (some m)) (Value.string ux) (.int .i64 0)).run Tryz.prog w7.drew=_ at hrun;rw[xB]at dP;have iZ:az (fun g=>g=m) w7 w8:=((az.refl (fun g=>g=m) w7).drew).grown M6 (fun k hk=>by cases hk;exact .inl rfl);have Ai:Hid (bK w8 base (some ⟨b,0,none⟩) (cO lay ux 0::s) (m::ms)):=kH (bK.store Nu.out iZ dP HMN.out);have yC:Hid (nU base ob (ny u SI out') w8):=kH (Bc.out.nY iZ hsm.isMap);have iA:Hid (FX base ob (fun g=>g=m) w3 w8):=kH (rf.out.trans (FX.nY iZ) (fun g hg=>.inl hg))
       have vL:∀g t cs,ai w7 g t cs->g≠m:=fun g t cs hb e=>by
        obtain⟨es,ck,ho⟩:=hsm.isMap;have:w7.heap[g]? =some (Obj.cells _ _ (0,0)):=hb;rw[e,ho]at this;cases this
       have Yu:=kH (Ao.out.since iZ (vL _ _ _ Ao.out));have Yt:=kH (FN.out.since iZ (vL _ _ _ FN.out));have Yr:=kH (kY.out.since iZ (vL _ _ _ kY.out));clear hsb hsm dP M6 Pw iZ vL h7 wZ E5 hv7 hx7 k7;go_wp2_with fail
       refine fT (fun w'=>w'.cell? ⟨b,1,none⟩=some (.map (some m))/\w'.cell? ⟨wr.heap.size,1,none⟩=some (.string ux)) [6] [true,true,true,true,true,true,false] (by kernel_rfl) (by kernel_rfl) rfl (by kernel_rfl) ?_;have hS0:w7.drew.cell? ⟨b,1,none⟩=some (.map (some m))/\w7.drew.cell? ⟨wr.heap.size,1,none⟩=some (.string ux):=⟨d1,u1⟩
       iterate 6(refine jI rfl hS0 (by intro w' hSw;obtain⟨hs1,hs2⟩:=hSw;go_simp;rfl) ?_;simp only[Act.put,sA,sZ,sC])
       refine kG (w':=w8) rfl (by simp[execOp,Act.eval,hrun,Result.andThen]) (by simp) ?_;refine ll ?_;simp only[Act.put];clear hS0 d1 u0 u1 lu hrun ym;go_wp2_with fail
       go_roundg (gk - 1)
       case measure=>omega
       case rel=>
        refine⟨j+1,l++[ux],cO lay ux 0,ny u SI out',by simp,by omega,Ai,kH (vO.out.add ux),yC,iA,Yu,Yt,Yr,kH ?_,kH ?_⟩
        ·rw[<- iP.out,HDR.out,qJ,<- Q6.out]
         congr 1
         unfold Jg;rw[if_pos K8.out.1,K8.out.2]
        ·have h1:=HLEN.out
         rw[HDR.out,ag]at h1;have h2:=vB u SI out';omega
      ·have oq:(uk==12)=false:=by simp[h12]
       have oN:=kH h12;clear h7 hs7 wZ E5 hv7 hx7 k7 ym h12;go_wp2_with fail
       go_roundg (gk - 1)
       case measure=>omega
       case rel=>
        refine⟨j+1,l,lay,ny u SI out',by simp,by omega,Nu,vO,Bc,rf,Ao,FN,kY,kH ?_,kH ?_⟩
        ·rw[<- iP.out,HDR.out,qJ,<- Q6.out]
         congr 1
         unfold Jg;rw[if_neg (by rw[K8.out.1];exact oN.out)]
        ·have h1:=HLEN.out
         rw[HDR.out,ag]at h1;have h2:=vB u SI out';omega
   ·have hjn:j=n:=by omega
    subst hjn;have hge:¬((j:Int)<(j:Int)):=by omega
    have HE:Hid (nU base ob FIN wr/\FX base ob (fun _=>False) w wr):=kH ⟨by
     have h1:=iP.out;rw[List.drop_eq_nil_of_le (by rw[HN.out];exact aaD _),uO]at h1;rw[<- h1]
     exact HOR.out,HX3.out.trans HXR.out (fun g hg=>.inr (by rw[hg];exact TD.out.1))⟩
    go_wp2_with fail
    go_end0
    exact⟨rfl,HE.out.1,HE.out.2⟩
theorem XP(B base ob ab vb:Nat)(hB:B<=base/\B<=ob):∀(n:Nat) (t:aa),ah t<=n->Wh B base ob ab vb t
 | 0,t,h=>by
  have:=qA t;omega
 | n+1,.node k x a e kids,h=>XO B base ob ab vb hB k x a e kids fun c hc=>XP B base ob ab vb hB n c (by
  have:=zh hc;rw[ah]at h
  omega)
theorem aaA(t:aa)(A:Option Addr)(c:Nat)(w:World)(hN:ah t<=1000000)(hk:aD w w.heap.size A 0 t.kids):
 Calls Tryz.prog 20 #[aX t A c] w fun e w'=> ∃v,e= .returned v/\aL w' w.heap.size 9 1 v (ny t [] []).length ((ny t [] []).flatMap eZ)/\Below w.heap.size w w':=by
 obtain⟨k0,x0,a0,z0,n0,-,-,-,-,-,mP⟩:=gM t A c;rw[mP];obtain⟨Z,hZ⟩:∃Z,ny t [] []=Z:=⟨_,rfl⟩
 rw[hZ];go_enter Tryz.func20,Tryz.ntmps20
 go_wp2_with fail
 obtain⟨W1,hW1⟩:∃W1,(((w.alloc (.cells #[.int .i64 k0,.string x0,.int .i64 a0,.int .i64 z0,.slice A n0 c] 24)).alloc (.cells #[.slice none 0 0] 41)).alloc (.cells #[.func (.func 44) #[] #[.pointer (some ⟨w.heap.size+1,0,none⟩)]] 91)).alloc (.cells #[.func (.func 47) #[] #[.pointer (some ⟨w.heap.size+1+1,0,none⟩),.pointer (some ⟨w.heap.size+1+1+1,0,none⟩)]] 92)=W1:=⟨_,rfl⟩
 rw[hW1]
 have GU:ai W1 (w.heap.size+1) 41 #[.slice none 0 0]:=by
  rw[<- hW1];have:=((ai.new (w.alloc (.cells #[.int .i64 k0,.string x0,.int .i64 a0,.int .i64 z0,.slice A n0 c] 24)) 41 #[.slice none 0 0]).alloc (.cells #[.func (.func 44) #[] #[.pointer (some ⟨w.heap.size+1,0,none⟩)]] 91)).alloc (.cells #[.func (.func 47) #[] #[.pointer (some ⟨w.heap.size+1+1,0,none⟩),.pointer (some ⟨w.heap.size+1+1+1,0,none⟩)]] 92);simpa using this
 have hab:ai W1 (w.heap.size+1+1) 91 #[.func (.func 44) #[] #[.pointer (some ⟨w.heap.size+1,0,none⟩)]]:=by
  rw[<- hW1];have:=(ai.new ((w.alloc (.cells #[.int .i64 k0,.string x0,.int .i64 a0,.int .i64 z0,.slice A n0 c] 24)).alloc (.cells #[.slice none 0 0] 41)) 91 #[.func (.func 44) #[] #[.pointer (some ⟨w.heap.size+1,0,none⟩)]]).alloc (.cells #[.func (.func 47) #[] #[.pointer (some ⟨w.heap.size+1+1,0,none⟩),.pointer (some ⟨w.heap.size+1+1+1,0,none⟩)]] 92);simpa using this
 have hvb:ai W1 (w.heap.size+1+1+1) 92 #[.func (.func 47) #[] #[.pointer (some ⟨w.heap.size+1+1,0,none⟩),.pointer (some ⟨w.heap.size+1+1+1,0,none⟩)]]:=by
  rw[<- hW1];have:=ai.new (((w.alloc (.cells #[.int .i64 k0,.string x0,.int .i64 a0,.int .i64 z0,.slice A n0 c] 24)).alloc (.cells #[.slice none 0 0] 41)).alloc (.cells #[.func (.func 44) #[] #[.pointer (some ⟨w.heap.size+1,0,none⟩)]] 91)) 92 #[.func (.func 47) #[] #[.pointer (some ⟨w.heap.size+1+1,0,none⟩),.pointer (some ⟨w.heap.size+1+1+1,0,none⟩)]];simpa using this
 have hb1:Below w.heap.size w W1:=by
  rw[<- hW1];exact(((((Below.refl _ w).alloc (aaD _) _).alloc (by simp) _).alloc (by simp;omega) _).alloc (by simp;omega) _)
 have hcall:=XP w.heap.size w.heap.size (w.heap.size+1) (w.heap.size+1+1) (w.heap.size+1+1+1) ⟨aaD _,by omega⟩ (ah t) t (aaD _) [] [] none [] [] A c W1 ⟨rfl,rfl⟩ (fun y=>rfl) (aD.below hb1 (aaD _) _ _ _ hk) hb1.size ⟨none,0,0,GU,aL.nil _ _ _ _⟩ hab hvb (by simpa using hN);rw[mP,hZ]at hcall;have HC:=kH hcall;have HB1:=kH hb1;clear hcall hb1 GU hab hvb hW1 mP hZ hk;refine HC.out.mono ?_;rintro e2 w2 ⟨rfl,⟨A2,n2,c2,h2,h3⟩,h4⟩;have hb2:Below w.heap.size w w2:=HB1.out.trans (h4.low HB1.out.size (by omega) (aaD _) (fun _ h=>h.elim));have hn2:n2=Z.length:=by have:=h3.1;rw[Ow]at this;omega
 have c0:=h2.cell 0;have l0:=h2.lt;have HO:Hid (aL w2 w.heap.size 9 1 (.slice A2 n2 c2) Z.length (Z.flatMap eZ)):=kH (by rw[<- hn2];exact h3);have HB2:=kH hb2;clear h2 h3 h4 hb2 hn2 HC;go_wp2_with fail
 go_ret
 exact⟨_,rfl,HO.out,HB2.out⟩
end Go.Proofs.YtoepemlnlpamlaaGreat
