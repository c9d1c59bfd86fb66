/- The law NamesStand holds: for every text and every number the law returns true, and its arguments read as before. No condition. Part 26: VisC2 VisD0. -/
import Derived.Test.YtoepemlnlpamlaaGreatStand24
set_option maxRecDepth 100000
set_option maxHeartbeats 4000000
namespace Go.Proofs.YtoepemlnlpamlaaGreat
open Go.RowKit
theorem VD(E:RC)(G:bD)(B:Nat)(hB:B<=E.base)(x:ByteArray)(a e:Int)(kids:List aa)(hih:∀k∈kids,gQ E G B k):gQ E G B (.node 12 x a e kids):=by
 intro i s p ms r V w A c h hs hsep hk hcap hbase hv hrb;obtain⟨nk,hnk⟩:∃q,kids.length=q:=⟨_,rfl⟩
 have hvk:s.isEmpty=false/\kids.length=2/\mq s.isEmpty kids=true:=by
  rw[qx,if_neg (by decide),if_neg (by decide),if_pos (by decide)]at hv;simp only[aad,Bool.not_eq_true',Bool.or_eq_true,decide_eq_true_eq]at hv;exact⟨hv.1.1.1,hv.1.1.2.resolve_left (by decide),hv.2⟩
 have hq:aL G i (aa.node 12 x a e kids) s r=((af G i kids 0 2 s (aD G (aB r i (ah (aj s))) 4 r.next (aa.node 12 x a e kids) ([]::s)).1).1,lL (af G i kids 0 2 s (aD G (aB r i (ah (aj s))) 4 r.next (aa.node 12 x a e kids) ([]::s)).1).2 ((aD G (aB r i (ah (aj s))) 4 r.next (aa.node 12 x a e kids) ([]::s)).2.headD [])):=by
  rw[di,if_neg (by decide),if_neg (by decide),if_neg (by decide),if_neg (by decide),if_neg (by decide),if_pos rfl]
 rw[hq];obtain⟨Q,hQ⟩:∃Q,((af G i kids 0 2 s (aD G (aB r i (ah (aj s))) 4 r.next (aa.node 12 x a e kids) ([]::s)).1).1,lL (af G i kids 0 2 s (aD G (aB r i (ah (aj s))) 4 r.next (aa.node 12 x a e kids) ([]::s)).1).2 ((aD G (aB r i (ah (aj s))) 4 r.next (aa.node 12 x a e kids) ([]::s)).2.headD []))=Q:=⟨_,rfl⟩
 rw[hQ];have HQ:=kH hQ;clear hq hQ;unfold bB;have aU:(aa.node 12 x a e kids).kind=12/\(aa.node 12 x a e kids).text=x/\(aa.node 12 x a e kids).at_=a/\(aa.node 12 x a e kids).end_=e/\(aa.node 12 x a e kids).kids=kids:=⟨rfl,rfl,rfl,rfl,rfl⟩
 rw[aU.1,aU.2.1,aU.2.2.1,aU.2.2.2.1,aU.2.2.2.2,hnk];rw[aU.2.2.2.2]at hk hcap;rw[hnk]at hcap;obtain⟨nx,hnx⟩:∃q,r.next=q:=⟨_,rfl⟩
 have hnb:nx<=1000000:=by have:=hrb.room;have:=hrb.most;omega
 have yT:nk<=1000000:=by have h1:=hrb.room;have h2:=hrb.most;have h3:=dU kids;rw[ai]at h1;omega
 have rq:w.cell? ⟨E.rp,7,none⟩=some (.int .i64 (nx:Int)):=by rw[<- hnx];exact h.blk.cell 7
 have hrw:=h.blk.lt;have hwn:IntKind.i64.wrap ((nx:Int)+1)=(nx:Int)+1:=IntWalk.i64_in _ (by omega);have hfx:=h.blk.frozen 7;have H:=kH h;have HS:=kH hs;have HK:=kH hk;have dC:=kH hrb;have aZ:=kH hnx;have gX:=kH hnk;have lS:=kH hvk;have fO:=kH hih;have HCAP:=kH hcap;have dh:=kH hbase;clear h hs hk hrb hnx hnk hvk hih hv aU hcap hbase;go_enter Tryz.func79,Tryz.ntmps79
 go_upto_if 32 with fail
 generalize hW3:(((w.setCell ⟨E.rp,7,none⟩ (.int .i64 ((nx:Int)+1))).alloc (.cells #[.pointer (some ⟨E.rp,0,none⟩)] 68)).alloc (.cells #[.int .i64 12,.string x,.int .i64 a,.int .i64 e,.slice A nk c] 24))=W3
 obtain⟨hr3,hk3⟩:=H.out.og (nx+1) (fun _=>False)
 have hbW:Below w.heap.size (w.setCell ⟨E.rp,7,none⟩ (.int .i64 ((nx:Int)+1))) W3:=by
  rw[<- hW3];have h1:=ae (w.setCell ⟨E.rp,7,none⟩ (.int .i64 ((nx:Int)+1))) (.cells #[.pointer (some ⟨E.rp,0,none⟩)] 68);have h2:=ae ((w.setCell ⟨E.rp,7,none⟩ (.int .i64 ((nx:Int)+1))).alloc (.cells #[.pointer (some ⟨E.rp,0,none⟩)] 68)) (.cells #[.int .i64 12,.string x,.int .i64 a,.int .i64 e,.slice A nk c] 24);have h3:=h1.trans (h2.mono (by simp));simpa using h3
 have jc:W3.heap.size=w.heap.size+2:=by rw[<- hW3];simp
 have jQ:ak W3 (w.heap.size+1) 24 #[.int .i64 12,.string x,.int .i64 a,.int .i64 e,.slice A nk c]:=by
  have:=ak.new ((w.setCell ⟨E.rp,7,none⟩ (.int .i64 ((nx:Int)+1))).alloc (.cells #[.pointer (some ⟨E.rp,0,none⟩)] 68)) 24 #[.int .i64 12,.string x,.int .i64 a,.int .i64 e,.slice A nk c];rw[hW3]at this;simpa using this
 have hp3:ak W3 w.heap.size 68 #[.pointer (some ⟨E.rp,0,none⟩)]:=by
  have:=(ak.new (w.setCell ⟨E.rp,7,none⟩ (.int .i64 ((nx:Int)+1))) 68 #[.pointer (some ⟨E.rp,0,none⟩)]).alloc (.cells #[.int .i64 12,.string x,.int .i64 a,.int .i64 e,.slice A nk c] 24);rw[hW3]at this;simpa using this
 have HR3:Hid (bf E G { r with next:=nx+1 } V W3):=kH (hr3.below (by simpa using hbW));have gq:Hid (KX E (fun _=>False) w W3):=kH (hk3.trans (KX.of_below (M:=fun _=>False) (by simpa using hbW)) (fun g hg=>.inl hg));have jE:Hid (aW W3 E.base p s ms):=kH (aW.kx gq.out H.out.dN HS.out (fun _ _ h=>h));have lG:=kH jQ;have gW:=kH hp3;have xP:=kH jc;have c5:W3.cell? ⟨E.rp,5,none⟩=some (.map (some E.vi)):=HR3.out.blk.cell 5;have p0:=hp3.cell 0;have qF:=HR3.out.blk.lt;have qX:=hp3.lt;clear hW3 hr3 hk3 hbW jQ hp3 jc rq hfx;go_cut [] (fun wx=> ∃Vx,Hid (bf E G (aB r i (ah (aj s))) Vx wx)/\Hid (KX E (fun g=>g=E.vi) W3 wx))
 case first=>
  cases i with
  | false=>
   go_wp2_with fail
   go_meet
   exact⟨V,by have:=HR3.out;rw[<- aZ.out]at this;exact kH this,kH (KX.refl _ _ _)⟩
  | true=>
   have hbz:E.base<=W3.heap.size:=aac dh.out gq.out.size;have hall:=oz E.base s p ms W3.drew (aW.below ((Below.refl _ W3).drew) jE.out) (by have:=dC.out.uP;have:=aZ.out;omega);have iV:=kH hall
   have gz:∀w':World,aA (fun g=>g=E.vi) W3 w'->w'.cell? ⟨E.rp,5,none⟩=some (.map (some E.vi))/\w'.cell? ⟨w.heap.size,0,none⟩=some (.pointer (some ⟨E.rp,0,none⟩)):=fun w' hw=>by
    have nm:∀{g:Nat}{t:TypeId}{cs:Array Value},ak W3 g t cs->g≠E.vi:=fun hb e=>by
     obtain⟨es,ck,ho⟩:=HR3.out.vi.isMap;subst e;have:W3.heap[_]? =some (Obj.cells _ _ (0,0)):=hb;rw[ho]at this;cases this
    exact⟨(HR3.out.blk.since hw (nm HR3.out.blk)).cell 5,(gW.out.since hw (nm gW.out)).cell 0⟩
   have gm:=kH gz;have hs0:aA (fun g=>g=E.vi) W3 W3.drew:=(aA.refl _ W3).drew
   have eG:(nx:Int) ∉ r.bH.map (·.1):=fun hm=>by
    obtain⟨y,hy,he⟩:=List.mem_map.1 hm;have:=dC.out.bH y hy;have:=aZ.out;omega
   have rD:=kH eG;clear hall gz eG;go_wp2_with fail
   go_region_held3 (fun w'=>w'.cell? ⟨E.rp,5,none⟩=some (.map (some E.vi))/\w'.cell? ⟨w.heap.size,0,none⟩=some (.pointer (some ⟨E.rp,0,none⟩))) (exact gm.out _ (by assumption)) ((go_at_call 145;refine iV.out.mono ?_;rintro e5 w5 ⟨v5,rfl,jY,hb5⟩;have hs5:=hs0.below hb5;obtain⟨w6,hrun,dM,ll,qH⟩:=bU (P:=Tryz.prog) (KK:=iN) (t:=72) (kt:=3) (et:=28) Tryz.underlying72 Tryz.underlying3 ((aY.drew HR3.out.vi).uH hb5) (nx:Int) v5;change (Instr.mapUpdate 72 (.map (some E.vi)) (Value.int .i64 (nx:Int)) v5).run Tryz.prog w5=_ at hrun;have hs6:aA (fun g=>g=E.vi) w5 w6:=(aA.refl (fun g=>g=E.vi) w5).grown ll (fun k hk=>by cases hk;exact .inl rfl);have hs7:=hs5.trans hs6))
   have hlen:(ah (aj s)).length=(aj s).length:=List.length_mergeSort _;have fV:Below W3.heap.size W3 w5:=((Below.refl _ W3).drew).trans hb5;have gG:=HR3.out.oh hbz fV (nx:Int) (ah (aj s)) v5 (by rw[hlen];exact jY) rD.out (fun g=>g=E.vi) rfl dM hs6;have gK:=kH gG;clear gG hs5 hs6 hs7 qH dM fV hb5 jY hs0 hrun ll;go_wp2_with fail
   go_meet
   exact⟨_,by have:=gK.out.1;rw[<- aZ.out]at this;exact kH this,kH gK.out.2⟩
 case rest=>
  obtain⟨Vx,ig,fQ⟩:=hcut;have iy:Hid (KX E (fun g=>g=E.vi) w wc):=kH ((gq.out.mono (fun _ hf=>hf.elim)).trans fQ.out (fun g hg=>.inl hg));have HV:Hid (VW E G B ⟨kids,12,x,a,e,A,nk,c,w.heap.size+1,w.heap.size⟩ w (fun g=>g=E.vi\/ms.head? =some g) (aB r i (ah (aj s))) Vx s p ms wc):=kH ⟨ig.out,aW.kx fQ.out HR3.out.dN jE.out (fun m hm e=>(hsep.apart m hm).2.2.2 e),HR3.out.kQ fQ.out lG.out,HR3.out.nU fQ.out gW.out,iy.out.mono (fun _ h=>.inl h),aK.below ((KX.low iy.out dh.out).mono hB) (aab _) _ _ _ HK.out,aac dh.out (KX.low iy.out dh.out).size,hB⟩;have hlk:=fun q=>fq (wc.drewN q) E.g G.globals (aY.drewN ig.out.gl q) x
  obtain⟨gi,hgi⟩:∃q,(bG G.globals x).getD 0=q:=⟨_,rfl⟩
  obtain⟨gb,hgb⟩:∃q,(bG G.globals x).isSome=q:=⟨_,rfl⟩
  rw[hgi,hgb]at hlk;obtain⟨⟨q0,lp⟩,⟨n0,n1,n2,n3,n4,ln⟩,⟨c0,c1,c2,c8,lr⟩⟩:=HV.out.cells;have uL:=kH hgi;have zq:=kH hgb;have hD:(aB r i (ah (aj s))).ds.length<=1000000:=by show r.ds.length<=_;have:=dC.out.ds;have:=aZ.out;omega
  have hP:(aB r i (ah (aj s))).aR.length<=1000000:=by show r.aR.length<=_;have:=dC.out.aR;have:=aZ.out;omega
  have hU:nx<(aB r i (ah (aj s))).uses.length:=by show nx<r.uses.length;have h1:=dC.out.room;have h2:=aZ.out;rw[ai]at h1;omega
  have HD:=kH hD;have qK:=kH hP;have HU:=kH hU;have kJ:∀u:RS,u.next=r.next+1->u.next<=r.next+1+ag ((aa.node 12 x a e kids).kids.take 0):=fun u hu=>by rw[hu];exact Nat.le_add_right _ _
  have rR:=kH kJ;clear hgi hgb c5 p0 qF qX kJ hD hP hU c8;obtain⟨L,hL⟩:∃L,aD G (aB r i (ah (aj s))) 4 nx (aa.node 12 x a e kids) ([]::s)=L:=⟨_,rfl⟩
  obtain⟨l,hl,hl1⟩:=Ry G (aB r i (ah (aj s))) 4 nx (aa.node 12 x a e kids) s;rw[hL]at hl;obtain⟨X,hX⟩:∃X,af G i kids 0 2 s L.1=X:=⟨_,rfl⟩
  have hsl:rz r L.1:=by
   have:=dW.nS G r i (ah (aj s)) 4 (aa.node 12 x a e kids) ([]::s);rw[aZ.out,hL]at this;exact this
  have hne:L.1.next=r.next+1:=by
   have:=pE G r i (ah (aj s)) 4 (aa.node 12 x a e kids) ([]::s);rw[aZ.out,hL]at this;rw[this,aZ.out]
  have hsx:rz r X.1:=dW.trans hsl (by rw[<- hX];exact xS G kids i 0 2 _ L.1)
  have hax:(aj (l::X.2)).length+r.next<=(aj s).length+X.1.next:=by
   have h1:=jl G kids i 0 2 s L.1;rw[hX,hne]at h1;rw[qI];omega
  have hnx2:X.1.next<=r.next+1+ag ((aa.node 12 x a e kids).kids.take 2):=by
   have h1:=qO G kids i 0 2 s L.1;rw[hX,hne]at h1;exact h1
  have hxl:X.2.length=s.length:=by rw[<- hX];exact kM G kids i 0 2 s L.1
  have ql:=kH hsl;have jv:=kH hne;have HL:=kH hL;have KZ:=kH hl;have uK:=kH hl1;have HX:=kH hX;have Bg:=kH hsx;have Lc:=kH hax;have Vo:=kH hnx2;have Sr:=kH hxl;have hin:=fun q=>(HV.out.drewN q).EW (HV.out.drewN q).S hsep
  have Bn:=kH hin;clear hin hsl hne hX hsx hax hnx2 hl hl1 hL hxl;go_wp2_with fail
  go_quiet (fail)
  go_wp2_with fail
  refine(Bn.out _).mono ?_;rintro e8 w8 ⟨b,m,rfl,hm,hb,iF,jh,wL,hbel,h8⟩;have hm1:w.heap.size<=m:=aac iy.out.size hm;have hvar:=h8.nS (aa.node 12 x a e kids) ⟨rfl,rfl,rfl,rfl,rfl⟩ gX.out HD.out qK.out 4 nx HU.out [] s m ms jh wL (.inr hm1);rw[HL.out]at hvar;have Jg:=kH hvar;have HOU:Hid (∀{M2:Nat->Prop}{w':World}{r':RS}{V':RV},KX E M2 w8 w'->bf E G r' V' w'->(∀g,M2 g->g=E.vi\/g=m)->VW E G B ⟨kids,12,x,a,e,A,nk,c,w.heap.size+1,w.heap.size⟩ w (fun g=>g=E.vi\/ms.head? =some g) r' V' s p ms w'):=kH (fun hk hr hM2=>(HV.out.drewN _).outer hsep hbel hk hr (fun g hg=>by rcases hM2 g hg with e|e;exact .inl e;exact .inr (by rw[e];exact hm)) (.inl rfl));have rH:=kH hb;have H8:=kH h8;have HM:Hid (w.heap.size<=m):=kH hm1;obtain⟨⟨q8,Ac⟩,⟨u0,u1,u2,u3,u4,lu⟩,⟨-,-,-,-,lr8⟩⟩:=h8.cells;have b0:=hb.cell 0;have b1:=hb.cell 1;have lb8:=hb.lt;clear hvar hm hb iF jh hbel h8 hm1;go_wp2_with fail
  refine Jg.out.mono ?_;rintro e9 w9 ⟨rfl,k9,V9,h9⟩;rw[KZ.out]at h9;have ek:=H8.out.xG k9 rH.out;have hhd:=h9.S.head;obtain⟨Pz,hbb,vQ,-⟩:=hhd;have J7:=HOU.out k9 h9.R (fun g hg=>.inr hg);obtain⟨⟨q9,lq9⟩,⟨-,-,-,-,n9,ln9⟩,-⟩:=J7.cells;have hcall:=J7.kids fO.out i 0 2 2 rfl gX.out (by show 0+2<=nk;have:=lS.out.2.1;have:=gX.out;omega) HCAP.out lS.out.2.2 (dC.out.kids (t:=(aa.node 12 x a e kids)) ql.out (by have:=jv.out;omega) (by rw[jv.out];exact Nat.le_add_right _ _)) hsep (fun g hg=>.inl hg);rw[HX.out]at hcall;have HC:=kH hcall;have HO9:=kH J7;have vT:=kH ek;have ZH:=kH Pz;have oZ:Hid (E.base<=b/\E.base<=m):=kH ⟨hbb,vQ⟩;clear hcall h9 ek Pz hbb vQ J7 k9 q8 Ac u0 u1 u2 u3 u4 lu lr8 b0 b1 lb8;go_wp2_with fail
  refine HC.out.mono ?_;rintro e10 bJ ⟨rfl,k10,yH,h10⟩;have jW:=HO9.out.xG k10 vT.out
  have J8:¬(m=E.vi\/ms.head? =some m):=fun h=>by
   rcases h with h|h
   ·exact(wL.apart m (by simp)).2.2.2 h
   ·refine(List.nodup_cons.1 wL.nodup).1 ?_
    cases ms with
    | nil=>cases h
    | cons a t=>simp at h;rw[h];simp
  have Gd:=k10.Qr ZH.out J8
  obtain⟨l0,s0,hX2⟩:∃l0 s0,X.2=l0::s0:=by
   have h1:=Sr.out;have h2:=lS.out.1
   cases hx:X.2 with
   | nil=>
    rw[hx]at h1
    cases s with
    | nil=>cases h2
    | cons a t=>cases h1
   | cons a t=>exact⟨a,t,rfl⟩
  have kG:(X.1,(l.foldl (fun a y=>dK a y.1 y.2) l0)::s0)=Q:=by
   rw[<- HQ.out,aZ.out,HL.out,HX.out,KZ.out,hX2];rfl
  obtain⟨b0,m0,p0,ms0,hp0,hms0,hbb0,hbm0,NF,PG,hst0⟩:∃b' m' p' ms',p=some ⟨b',0,none⟩/\ms=m'::ms'/\E.base<=b'/\E.base<=m'/\ak bJ b' 95 #[.pointer p',.map (some m')]/\aY jB bJ m' (jV l0)/\aW bJ E.base p' s0 ms':=by
   have:=h10.S;rw[hX2]at this;exact this
  subst hp0;subst hms0;rw[hX2]at h10;obtain⟨jF,hr11,hit,jC,hsz11⟩:=zV (P:=Tryz.prog) (t:=70) (kt:=9) (et:=3) Tryz.underlying70 Gd;have d1:=jW.cell 1;have ld:=jW.lt;have hm0m:m0≠m:=fun e=>J8 (.inr (by rw[e];rfl))
  have hb0m:b0≠m0:=fun e=>PG.qW NF e.symm
  obtain⟨it,yU⟩:∃it,bJ.heap.size=it:=⟨_,rfl⟩
  have hmit:m<it:=by rw[<- yU];exact Gd.lt
  have hm0it:m0<it:=by rw[<- yU];exact PG.lt
  have hb0it:b0<it:=by rw[<- yU];exact NF.lt
  have hsA:aA (fun g=>g=m0\/it<=g) bJ jF:=(aA.refl _ bJ).below jC;have HM0:Hid (aY jB jF m0 (jV l0)):=kH (PG.below jC PG.lt);have HIT:=kH hit;have HSA:=kH hsA;have H10:=kH h10;have HB0:=kH NF;have oW:=kH kG;have KY:Hid (m<it/\m0<it/\b0<it/\m0≠m/\b0≠m0/\bJ.heap.size=it):=kH ⟨hmit,hm0it,hb0it,hm0m,hb0m,yU⟩;have yI:=kH hX2;clear hit hsA h10 NF PG hst0 kG jW Gd k10 J8 hmit hm0it hb0it hm0m hb0m hX2 q9 lq9 n9 ln9 HC hsz11 jC hbb0 hbm0;go_wp2_with fail
  first|rw[yU]at HIT⊢ |rw[yU]at HIT
  clear yU;go_loopg [] l.length (fun gk wr=> ∃(left:List (Value×Value)) (lz:nA),gk=left.length/\Hid (mU jB wr m it (jV l) left)/\Hid (aA (fun g=>g=m0\/it<=g) bJ wr)/\Hid (aY jB wr m0 (jV lz))/\Hid ((left=(jV l).map (fun x=>(jB.qw x.1,x.2))/\lz=l0)\/(left=[]/\lz=(l.foldl (fun a y=>dK a y.1 y.2) l0))))
  case atStart=>exact⟨_,l0,by simp[jV],HIT,HSA,HM0,kH (.inl ⟨rfl,rfl⟩)⟩
  case round=>
   obtain⟨left,lz,hgk',HI,Nc,HM',HD'⟩:=hrel;have Y7:=HB0.out.since Nc.out (by have:=KY.out;omega);rcases BU (P:=Tryz.prog) 0 HI.out (by have:=KY.out;omega) with⟨hl0,hnx⟩| ⟨kv,vv,left',w2,hperm,hmem,hnx,hit2,E5,hsz2,hent⟩
   ·subst hl0
    have hlz:lz=(l.foldl (fun a y=>dK a y.1 y.2) l0):=by
     rcases HD'.out with⟨h1,h2⟩| ⟨-,h2⟩
     ·have h3:=congrArg List.length h1
      simp[jV]at h3;rw[h2,List.length_eq_zero_iff.1 h3.symm];rfl
     ·exact h2
    have hs0:aA (fun g=>g=m0) bJ wr:=⟨Nc.out.os,Nc.out.tape,Nc.out.output,Nc.out.size,fun g hg hn=>Nc.out.block g hg (fun h=>h.elim hn (fun h=>by have:=KY.out;omega))⟩
    have HE:Hid (∃V',bf E G Q.1 V' wr/\aW wr E.base (some ⟨b0,0,none⟩) Q.2 (m0::ms0)/\KX E (fun g=>g=E.vi\/(m0::ms0).head? =some g) w wr):=kH (by
     rw[<- oW.out,<- hlz]
     exact(H10.out.store hsep hs0 HM'.out (.inl (.inr rfl))).end_)
    clear hs0 hlz Y7 HI Nc HM' HD';go_wp2_with fail
    try simp only[Exit.inBlock,Exit.then]
    refine bodyPost_ret (results_none rfl _ _ _) rfl ?_;exact⟨rfl,HE.out⟩
   ·obtain⟨y,n,hl,Ka,hvv,hleft,hlz⟩:∃y n,l=[(y,n)]/\kv= .string y/\vv= .int .i64 n/\left'=[]/\lz=l0:=by
     rcases HD'.out with⟨h1,h2⟩| ⟨h1,-⟩
     ·have h3:=uK.out
      cases hl:l with
      | nil=>
       rw[h1,hl]at hperm;exact absurd hperm.length_eq (by simp[jV])
      | cons z l'=>
       rw[hl]at h3;have h4:l'=[]:=by simp at h3;exact h3
       subst h4;obtain⟨y,n⟩:=z;rw[h1,hl]at hperm;have h5:=List.perm_singleton.1 hperm.symm;simp only[List.cons.injEq,Prod.mk.injEq]at h5;exact⟨y,n,rfl,h5.1.1,h5.1.2,h5.2,h2⟩
     ·rw[h1]at hperm
      exact absurd hperm.length_eq (by simp)
    subst Ka hvv hleft;obtain⟨w3,hrun,eH,hg3,hz3⟩:=bU (P:=Tryz.prog) (KK:=jB) (t:=70) (kt:=9) (et:=3) Tryz.underlying70 Tryz.underlying9 (HM'.out.since E5 (by have:=KY.out;omega)) y (.int .i64 n);change (Instr.mapUpdate 70 (.map (some m0)) (Value.string y) (.int .i64 n)).run Tryz.prog w2=_ at hrun;rw[xE]at eH;have Y6:=Y7.since E5 (by have:=KY.out;omega);have e1:=Y6.cell 1;have le:=Y6.lt;have hs2:aA (fun g=>g=m0\/it<=g) bJ w2:=Nc.out.trans (aA.mono E5 (fun g hg=>.inr (by omega)));have hs3:aA (fun g=>g=m0\/it<=g) bJ w3:=hs2.trans ((aA.refl (fun g=>g=m0\/it<=g) w2).grown hg3 (fun k hk=>by cases hk;exact .inl (.inl rfl)));have hit3:=hit2.grown hg3 (by simp;have:=KY.out;omega) (by simp;have:=KY.out;omega);have jE:=kH hs3;have HM3:=kH eH;have HI3:=kH hit3;have HLL2:=kH hl;have HLZ:=kH hlz;have KU:=kH hperm;clear hs2 hs3 eH hit3 hl hlz hperm hmem hit2 E5 hsz2 hg3 hz3 Y7 Y6;go_wp2_with fail
    go_roundg (gk - 1)
    case measure=>have h9:left.length=1:=KU.out.length_eq;omega
    case rel=>
     refine⟨[],dK l0 y n,by have h9:left.length=1:=KU.out.length_eq;show gk - 1=0;omega,HI3,jE,?_,kH (.inr ⟨rfl,?_⟩)⟩
     ·rw[HLZ.out]at HM3
      exact HM3
     ·rw[HLL2.out]
      rfl
theorem XT(E:RC)(G:bD)(B:Nat)(hB:B<=E.base)(x:ByteArray)(a e:Int)(kids:List aa)(hih:∀k∈kids,gQ E G B k):gQ E G B (.node 19 x a e kids):=by
 intro i s p ms r V w A c h hs hsep hk hcap hbase hv hrb;obtain⟨nk,hnk⟩:∃q,kids.length=q:=⟨_,rfl⟩
 have hvk:mq s.isEmpty kids=true:=by
  rw[qx,if_neg (by decide),if_neg (by decide),if_neg (by decide)]at hv;exact hv
 have hq:aL G i (aa.node 19 x a e kids) s r=af G i kids 0 kids.length s (ik G s r (aB r i (ah (aj s))) (aa.node 19 x a e kids)):=by
  rw[di];repeat (rw[if_neg (by decide)])
 rw[hq];obtain⟨Q,hQ⟩:∃Q,af G i kids 0 kids.length s (ik G s r (aB r i (ah (aj s))) (aa.node 19 x a e kids))=Q:=⟨_,rfl⟩
 rw[hQ];have HQ:=kH hQ;clear hq hQ;unfold bB;have aU:(aa.node 19 x a e kids).kind=19/\(aa.node 19 x a e kids).text=x/\(aa.node 19 x a e kids).at_=a/\(aa.node 19 x a e kids).end_=e/\(aa.node 19 x a e kids).kids=kids:=⟨rfl,rfl,rfl,rfl,rfl⟩
 rw[aU.1,aU.2.1,aU.2.2.1,aU.2.2.2.1,aU.2.2.2.2,hnk];rw[aU.2.2.2.2]at hk hcap;rw[hnk]at hcap;obtain⟨nx,hnx⟩:∃q,r.next=q:=⟨_,rfl⟩
 have hnb:nx<=1000000:=by have:=hrb.room;have:=hrb.most;omega
 have yT:nk<=1000000:=by have h1:=hrb.room;have h2:=hrb.most;have h3:=dU kids;rw[ai]at h1;omega
 have rq:w.cell? ⟨E.rp,7,none⟩=some (.int .i64 (nx:Int)):=by rw[<- hnx];exact h.blk.cell 7
 have hrw:=h.blk.lt;have hwn:IntKind.i64.wrap ((nx:Int)+1)=(nx:Int)+1:=IntWalk.i64_in _ (by omega);have hfx:=h.blk.frozen 7;have H:=kH h;have HS:=kH hs;have HK:=kH hk;have dC:=kH hrb;have aZ:=kH hnx;have gX:=kH hnk;have lS:=kH hvk;have fO:=kH hih;have HCAP:=kH hcap;have dh:=kH hbase;clear h hs hk hrb hnx hnk hvk hih hv aU hcap hbase;go_enter Tryz.func79,Tryz.ntmps79
 go_upto_if 32 with fail
 generalize hW3:(((w.setCell ⟨E.rp,7,none⟩ (.int .i64 ((nx:Int)+1))).alloc (.cells #[.pointer (some ⟨E.rp,0,none⟩)] 68)).alloc (.cells #[.int .i64 19,.string x,.int .i64 a,.int .i64 e,.slice A nk c] 24))=W3
 obtain⟨hr3,hk3⟩:=H.out.og (nx+1) (fun _=>False)
 have hbW:Below w.heap.size (w.setCell ⟨E.rp,7,none⟩ (.int .i64 ((nx:Int)+1))) W3:=by
  rw[<- hW3];have h1:=ae (w.setCell ⟨E.rp,7,none⟩ (.int .i64 ((nx:Int)+1))) (.cells #[.pointer (some ⟨E.rp,0,none⟩)] 68);have h2:=ae ((w.setCell ⟨E.rp,7,none⟩ (.int .i64 ((nx:Int)+1))).alloc (.cells #[.pointer (some ⟨E.rp,0,none⟩)] 68)) (.cells #[.int .i64 19,.string x,.int .i64 a,.int .i64 e,.slice A nk c] 24);have h3:=h1.trans (h2.mono (by simp));simpa using h3
 have jc:W3.heap.size=w.heap.size+2:=by rw[<- hW3];simp
 have jQ:ak W3 (w.heap.size+1) 24 #[.int .i64 19,.string x,.int .i64 a,.int .i64 e,.slice A nk c]:=by
  have:=ak.new ((w.setCell ⟨E.rp,7,none⟩ (.int .i64 ((nx:Int)+1))).alloc (.cells #[.pointer (some ⟨E.rp,0,none⟩)] 68)) 24 #[.int .i64 19,.string x,.int .i64 a,.int .i64 e,.slice A nk c];rw[hW3]at this;simpa using this
 have hp3:ak W3 w.heap.size 68 #[.pointer (some ⟨E.rp,0,none⟩)]:=by
  have:=(ak.new (w.setCell ⟨E.rp,7,none⟩ (.int .i64 ((nx:Int)+1))) 68 #[.pointer (some ⟨E.rp,0,none⟩)]).alloc (.cells #[.int .i64 19,.string x,.int .i64 a,.int .i64 e,.slice A nk c] 24);rw[hW3]at this;simpa using this
 have HR3:Hid (bf E G { r with next:=nx+1 } V W3):=kH (hr3.below (by simpa using hbW));have gq:Hid (KX E (fun _=>False) w W3):=kH (hk3.trans (KX.of_below (M:=fun _=>False) (by simpa using hbW)) (fun g hg=>.inl hg));have jE:Hid (aW W3 E.base p s ms):=kH (aW.kx gq.out H.out.dN HS.out (fun _ _ h=>h));have lG:=kH jQ;have gW:=kH hp3;have xP:=kH jc;have c5:W3.cell? ⟨E.rp,5,none⟩=some (.map (some E.vi)):=HR3.out.blk.cell 5;have p0:=hp3.cell 0;have qF:=HR3.out.blk.lt;have qX:=hp3.lt;clear hW3 hr3 hk3 hbW jQ hp3 jc rq hfx;go_cut [] (fun wx=> ∃Vx,Hid (bf E G (aB r i (ah (aj s))) Vx wx)/\Hid (KX E (fun g=>g=E.vi) W3 wx))
 case first=>
  cases i with
  | false=>
   go_wp2_with fail
   go_meet
   exact⟨V,by have:=HR3.out;rw[<- aZ.out]at this;exact kH this,kH (KX.refl _ _ _)⟩
  | true=>
   have hbz:E.base<=W3.heap.size:=aac dh.out gq.out.size;have hall:=oz E.base s p ms W3.drew (aW.below ((Below.refl _ W3).drew) jE.out) (by have:=dC.out.uP;have:=aZ.out;omega);have iV:=kH hall
   have gz:∀w':World,aA (fun g=>g=E.vi) W3 w'->w'.cell? ⟨E.rp,5,none⟩=some (.map (some E.vi))/\w'.cell? ⟨w.heap.size,0,none⟩=some (.pointer (some ⟨E.rp,0,none⟩)):=fun w' hw=>by
    have nm:∀{g:Nat}{t:TypeId}{cs:Array Value},ak W3 g t cs->g≠E.vi:=fun hb e=>by
     obtain⟨es,ck,ho⟩:=HR3.out.vi.isMap;subst e;have:W3.heap[_]? =some (Obj.cells _ _ (0,0)):=hb;rw[ho]at this;cases this
    exact⟨(HR3.out.blk.since hw (nm HR3.out.blk)).cell 5,(gW.out.since hw (nm gW.out)).cell 0⟩
   have gm:=kH gz;have hs0:aA (fun g=>g=E.vi) W3 W3.drew:=(aA.refl _ W3).drew
   have eG:(nx:Int) ∉ r.bH.map (·.1):=fun hm=>by
    obtain⟨y,hy,he⟩:=List.mem_map.1 hm;have:=dC.out.bH y hy;have:=aZ.out;omega
   have rD:=kH eG;clear hall gz eG;go_wp2_with fail
   go_region_held3 (fun w'=>w'.cell? ⟨E.rp,5,none⟩=some (.map (some E.vi))/\w'.cell? ⟨w.heap.size,0,none⟩=some (.pointer (some ⟨E.rp,0,none⟩))) (exact gm.out _ (by assumption)) ((go_at_call 145;refine iV.out.mono ?_;rintro e5 w5 ⟨v5,rfl,jY,hb5⟩;have hs5:=hs0.below hb5;obtain⟨w6,hrun,dM,ll,qH⟩:=bU (P:=Tryz.prog) (KK:=iN) (t:=72) (kt:=3) (et:=28) Tryz.underlying72 Tryz.underlying3 ((aY.drew HR3.out.vi).uH hb5) (nx:Int) v5;change (Instr.mapUpdate 72 (.map (some E.vi)) (Value.int .i64 (nx:Int)) v5).run Tryz.prog w5=_ at hrun;have hs6:aA (fun g=>g=E.vi) w5 w6:=(aA.refl (fun g=>g=E.vi) w5).grown ll (fun k hk=>by cases hk;exact .inl rfl);have hs7:=hs5.trans hs6))
   have hlen:(ah (aj s)).length=(aj s).length:=List.length_mergeSort _;have fV:Below W3.heap.size W3 w5:=((Below.refl _ W3).drew).trans hb5;have gG:=HR3.out.oh hbz fV (nx:Int) (ah (aj s)) v5 (by rw[hlen];exact jY) rD.out (fun g=>g=E.vi) rfl dM hs6;have gK:=kH gG;clear gG hs5 hs6 hs7 qH dM fV hb5 jY hs0 hrun ll;go_wp2_with fail
   go_meet
   exact⟨_,by have:=gK.out.1;rw[<- aZ.out]at this;exact kH this,kH gK.out.2⟩
 case rest=>
  obtain⟨Vx,ig,fQ⟩:=hcut;have iy:Hid (KX E (fun g=>g=E.vi) w wc):=kH ((gq.out.mono (fun _ hf=>hf.elim)).trans fQ.out (fun g hg=>.inl hg));have HV:Hid (VW E G B ⟨kids,19,x,a,e,A,nk,c,w.heap.size+1,w.heap.size⟩ w (fun g=>g=E.vi\/ms.head? =some g) (aB r i (ah (aj s))) Vx s p ms wc):=kH ⟨ig.out,aW.kx fQ.out HR3.out.dN jE.out (fun m hm e=>(hsep.apart m hm).2.2.2 e),HR3.out.kQ fQ.out lG.out,HR3.out.nU fQ.out gW.out,iy.out.mono (fun _ h=>.inl h),aK.below ((KX.low iy.out dh.out).mono hB) (aab _) _ _ _ HK.out,aac dh.out (KX.low iy.out dh.out).size,hB⟩;have hlk:=fun q=>fq (wc.drewN q) E.g G.globals (aY.drewN ig.out.gl q) x
  obtain⟨gi,hgi⟩:∃q,(bG G.globals x).getD 0=q:=⟨_,rfl⟩
  obtain⟨gb,hgb⟩:∃q,(bG G.globals x).isSome=q:=⟨_,rfl⟩
  rw[hgi,hgb]at hlk;obtain⟨⟨q0,lp⟩,⟨n0,n1,n2,n3,n4,ln⟩,⟨c0,c1,c2,c8,lr⟩⟩:=HV.out.cells;have uL:=kH hgi;have zq:=kH hgb;have hD:(aB r i (ah (aj s))).ds.length<=1000000:=by show r.ds.length<=_;have:=dC.out.ds;have:=aZ.out;omega
  have hP:(aB r i (ah (aj s))).aR.length<=1000000:=by show r.aR.length<=_;have:=dC.out.aR;have:=aZ.out;omega
  have hU:nx<(aB r i (ah (aj s))).uses.length:=by show nx<r.uses.length;have h1:=dC.out.room;have h2:=aZ.out;rw[ai]at h1;omega
  have HD:=kH hD;have qK:=kH hP;have HU:=kH hU;have kJ:∀u:RS,u.next=r.next+1->u.next<=r.next+1+ag ((aa.node 19 x a e kids).kids.take 0):=fun u hu=>by rw[hu];exact Nat.le_add_right _ _
  have rR:=kH kJ;clear hgi hgb c5 p0 qF qX kJ hD hP hU c8;obtain⟨tq,qY⟩:∃tq,((bY G.globals x).filter fun j=>decide (mM G j=5))=tq:=⟨_,rfl⟩
  have HTQ:=kH qY
  have kG:af G i kids 0 nk s (gB (aB r i (ah (aj s))) nx (aa.node 19 x a e kids) tq)=Q:=by
   rw[<- HQ.out,gX.out,<- qY,<- aZ.out];rfl
  have oW:=kH kG;have ql:Hid (rz r (gB (aB r i (ah (aj s))) nx (aa.node 19 x a e kids) tq)):=kH (by have:=dW.CS r i (ah (aj s)) (aa.node 19 x a e kids) tq;rw[aZ.out]at this;exact this);have jv:Hid ((gB (aB r i (ah (aj s))) nx (aa.node 19 x a e kids) tq).next=r.next+1):=kH (by cases tq<;>rfl);clear kG;obtain⟨kk,hkk⟩:∃q,mM G gi=q:=⟨_,rfl⟩
  have hty:∀k,tq=some k->k=gi:=fun k hk=>by
   rw[<- qY]at hk;rw[<- uL.out]
   cases hl:bG G.globals x with
   | none=>rw[show bY G.globals x=none from hl]at hk;cases hk
   | some y=>
    rw[show bY G.globals x=some y from hl]at hk;have:=(Option.filter_eq_some_iff.1 hk).1;simp only[aag]at this;rw[<- this];rfl
  have htb:tq.isSome=(gb&&(kk==5)):=by
   rw[<- qY,<- zq.out,<- hkk,<- uL.out]
   cases hl:bG G.globals x with
   | none=>rw[show bY G.globals x=none from hl];rfl
   | some y=>
    rw[show bY G.globals x=some y from hl];show(Option.filter (fun j=>decide (mM G j=5)) (some y)).isSome=(true&&(mM G y==5));by_cases hy:mM G y=5
    ·simp[hy]
    ·simp[hy]
  have gz:∀r' V' w',VW E G B ⟨kids,19,x,a,e,A,nk,c,w.heap.size+1,w.heap.size⟩ w (fun g=>g=E.vi\/ms.head? =some g) r' V' s p ms w'->(w'.cell? ⟨w.heap.size,0,none⟩=some (.pointer (some ⟨E.rp,0,none⟩))/\w'.cell? ⟨w.heap.size+1,0,none⟩=some (.int .i64 19)/\w'.cell? ⟨w.heap.size+1,1,none⟩=some (.string x)/\w'.cell? ⟨w.heap.size+1,2,none⟩=some (.int .i64 a)/\w'.cell? ⟨w.heap.size+1,3,none⟩=some (.int .i64 e)/\w'.cell? ⟨w.heap.size+1,4,none⟩=some (.slice A nk c)/\w'.cell? ⟨E.rp,2,none⟩=some (.map (some E.k))/\(Instr.lookup 71 (.map (some E.k)) (.int .i64 gi) false).run Tryz.prog w'= .ok (.int .i64 kk) w'):=fun r' V' w' hv=>by
   obtain⟨⟨y0,-⟩,⟨z0,z1,z2,z3,z4,-⟩,⟨-,-,d2,-,-⟩⟩:=hv.cells;exact⟨y0,z0,z1,z2,z3,z4,d2,by have:=uu w' E.k G.kinds hv.R.kn gi;rw[show(bG G.kinds gi).getD 0=kk from hkk]at this;exact this⟩
  have gm:=kH gz;have mZ:=fun q=>((HV.out.drewN q).drew).NT (aa.node 19 x a e kids) ⟨rfl,rfl,rfl,rfl,rfl⟩ gX.out qK.out nx HU.out tq gi hty
  rw[htb]at mZ;have Mv:=fun q=>(HV.out.drewN q).drew
  have QA:=kH Mv;have hlf:=fun q=>uu (wc.drewN q) E.k G.kinds (aY.drewN ig.out.kn q) gi
  rw[show(bG G.kinds gi).getD 0=kk from hkk]at hlf;clear gz Mv qY hty htb hkk
  cases gb with
  | false=>
   rw[Bool.false_and]at mZ;have zl:=kH mZ;clear mZ;go_wp2_with fail
   go_quiet (fail)
   go_wp2_with fail
   have hS0:=gm.out _ _ _ (QA.out nq);refine lI (fun w'=>(w'.cell? ⟨w.heap.size,0,none⟩=some (.pointer (some ⟨E.rp,0,none⟩))/\w'.cell? ⟨w.heap.size+1,0,none⟩=some (.int .i64 19)/\w'.cell? ⟨w.heap.size+1,1,none⟩=some (.string x)/\w'.cell? ⟨w.heap.size+1,2,none⟩=some (.int .i64 a)/\w'.cell? ⟨w.heap.size+1,3,none⟩=some (.int .i64 e)/\w'.cell? ⟨w.heap.size+1,4,none⟩=some (.slice A nk c)/\w'.cell? ⟨E.rp,2,none⟩=some (.map (some E.k))/\(Instr.lookup 71 (.map (some E.k)) (.int .i64 gi) false).run Tryz.prog w'= .ok (.int .i64 kk) w')) [] [true,true,true,true,true,true,true,true,true,true,true,true,true,true,false] (by kernel_rfl) (by kernel_rfl) rfl (by kernel_rfl) ?_;iterate 14((first|(refine oF (by rfl) hS0 ?_)|(refine mV (by rfl) hS0 (by intro w' hSw;obtain⟨hs1,hs2,hs3,hs4,hs5,hs6,hs7,jh⟩:=hSw;go_simp;rfl) ?_));simp only[Act.put,sA,sZ,sC])
   refine vH (by rfl) (by go_simp) ((zl.out _).mono ?_);rintro e8 w8 ⟨rfl,V8,h8⟩;refine⟨_,rfl,fun _=>gm.out _ _ _ h8,?_⟩;simp only[Act.put,sA,sZ,sC];refine qL ?_;obtain⟨⟨q8,Ac⟩,⟨-,-,-,-,n8,GD⟩,-⟩:=h8.cells;have hcall:=h8.kids fO.out i 0 nk nk (by omega) gX.out (by show 0+nk<=nk;omega) HCAP.out lS.out (dC.out.kids (t:=(aa.node 19 x a e kids)) ql.out (Nat.add_le_add_left ql.out.next _) (rR.out _ jv.out)) hsep (fun g hg=>.inl hg);rw[oW.out]at hcall;have HC:=kH hcall;clear hcall h8;go_wp2_with fail
   refine HC.out.mono ?_;rintro e10 bJ ⟨rfl,-,yH,h10⟩;have HE:Hid (∃V',bf E G Q.1 V' bJ/\aW bJ E.base p Q.2 ms/\KX E (fun g=>g=E.vi\/ms.head? =some g) w bJ):=kH h10.end_;clear h10 HC q8 n8;go_wp2_with fail
   go_end0
   exact⟨rfl,HE.out⟩
  | true=>
   rw[Bool.true_and]at mZ;have zl:=kH mZ;clear mZ;go_wp2_with fail
   go_quiet (fail)
   go_wp2_with fail
   have hS0:=gm.out _ _ _ (QA.out nq);refine lI (fun w'=>(w'.cell? ⟨w.heap.size,0,none⟩=some (.pointer (some ⟨E.rp,0,none⟩))/\w'.cell? ⟨w.heap.size+1,0,none⟩=some (.int .i64 19)/\w'.cell? ⟨w.heap.size+1,1,none⟩=some (.string x)/\w'.cell? ⟨w.heap.size+1,2,none⟩=some (.int .i64 a)/\w'.cell? ⟨w.heap.size+1,3,none⟩=some (.int .i64 e)/\w'.cell? ⟨w.heap.size+1,4,none⟩=some (.slice A nk c)/\w'.cell? ⟨E.rp,2,none⟩=some (.map (some E.k))/\(Instr.lookup 71 (.map (some E.k)) (.int .i64 gi) false).run Tryz.prog w'= .ok (.int .i64 kk) w')) [] [true,true,true,true,true,true,true,true,true,true,true,true,true,true,false] (by kernel_rfl) (by kernel_rfl) rfl (by kernel_rfl) ?_;iterate 14((first|(refine oF (by rfl) hS0 ?_)|(refine mV (by rfl) hS0 (by intro w' hSw;obtain⟨hs1,hs2,hs3,hs4,hs5,hs6,hs7,jh⟩:=hSw;go_simp;rfl) ?_));simp only[Act.put,sA,sZ,sC])
   refine vH (by rfl) (by go_simp) ((zl.out _).mono ?_);rintro e8 w8 ⟨rfl,V8,h8⟩;refine⟨_,rfl,fun _=>gm.out _ _ _ h8,?_⟩;simp only[Act.put,sA,sZ,sC];refine qL ?_;obtain⟨⟨q8,Ac⟩,⟨-,-,-,-,n8,GD⟩,-⟩:=h8.cells;have hcall:=h8.kids fO.out i 0 nk nk (by omega) gX.out (by show 0+nk<=nk;omega) HCAP.out lS.out (dC.out.kids (t:=(aa.node 19 x a e kids)) ql.out (Nat.add_le_add_left ql.out.next _) (rR.out _ jv.out)) hsep (fun g hg=>.inl hg);rw[oW.out]at hcall;have HC:=kH hcall;clear hcall h8;go_wp2_with fail
   refine HC.out.mono ?_;rintro e10 bJ ⟨rfl,-,yH,h10⟩;have HE:Hid (∃V',bf E G Q.1 V' bJ/\aW bJ E.base p Q.2 ms/\KX E (fun g=>g=E.vi\/ms.head? =some g) w bJ):=kH h10.end_;clear h10 HC q8 n8;go_wp2_with fail
   go_end0
   exact⟨rfl,HE.out⟩
end Go.Proofs.YtoepemlnlpamlaaGreat
