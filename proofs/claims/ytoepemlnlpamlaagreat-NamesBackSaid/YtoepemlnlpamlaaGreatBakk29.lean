/- The law NamesBack holds for every text and every number: it returns true, and its arguments read as before. No condition. Part 29: VisC1 VisC2 VisD0. -/
import Derived.Test.YtoepemlnlpamlaaGreatBakk27
import Derived.Test.YtoepemlnlpamlaaGreatBakk28
set_option maxRecDepth 100000
set_option maxHeartbeats 4000000
namespace Go.Proofs.YtoepemlnlpamlaaGreat
open Go.RowKit
theorem Ws(E:RC)(G:aW)(B:Nat)(hB:B<=E.base)(x:ByteArray)(a e:Int)(kids:List aa)(hih:∀k∈kids,fI E G B k):fI E G B (.node 16 x a e kids):=by
 intro i s p ms r V w A c h hs hsep hk hcap hbase hv hrb;obtain⟨nk,hnk⟩:∃q,kids.length=q:=⟨_,rfl⟩
 have hvk:s.isEmpty=false/\kids.length=3/\lT s.isEmpty kids=true:=by
  rw[pY,if_neg (by decide),if_neg (by decide),if_pos (by decide)]at hv;simp only[aaF,Bool.not_eq_true',Bool.or_eq_true,decide_eq_true_eq]at hv;exact⟨hv.1.1.1,hv.1.2.resolve_left (by decide),hv.2⟩
 have hq:aF G i (aa.node 16 x a e kids) s r=((ae G i kids 2 1 ((aA G (aC r i (aj (ak s))) 5 r.next (aa.node 16 x a e kids) ([]::s)).2.headD []::(ae G i kids 0 2 s (aA G (aC r i (aj (ak s))) 5 r.next (aa.node 16 x a e kids) ([]::s)).1).2) (ae G i kids 0 2 s (aA G (aC r i (aj (ak s))) 5 r.next (aa.node 16 x a e kids) ([]::s)).1).1).1,(ae G i kids 2 1 ((aA G (aC r i (aj (ak s))) 5 r.next (aa.node 16 x a e kids) ([]::s)).2.headD []::(ae G i kids 0 2 s (aA G (aC r i (aj (ak s))) 5 r.next (aa.node 16 x a e kids) ([]::s)).1).2) (ae G i kids 0 2 s (aA G (aC r i (aj (ak s))) 5 r.next (aa.node 16 x a e kids) ([]::s)).1).1).2.tail):=by
  rw[bY,if_neg (by decide),if_neg (by decide),if_neg (by decide),if_neg (by decide),if_neg (by decide),if_neg (by decide),if_pos rfl]
 rw[hq];obtain⟨Q,hQ⟩:∃Q,((ae G i kids 2 1 ((aA G (aC r i (aj (ak s))) 5 r.next (aa.node 16 x a e kids) ([]::s)).2.headD []::(ae G i kids 0 2 s (aA G (aC r i (aj (ak s))) 5 r.next (aa.node 16 x a e kids) ([]::s)).1).2) (ae G i kids 0 2 s (aA G (aC r i (aj (ak s))) 5 r.next (aa.node 16 x a e kids) ([]::s)).1).1).1,(ae G i kids 2 1 ((aA G (aC r i (aj (ak s))) 5 r.next (aa.node 16 x a e kids) ([]::s)).2.headD []::(ae G i kids 0 2 s (aA G (aC r i (aj (ak s))) 5 r.next (aa.node 16 x a e kids) ([]::s)).1).2) (ae G i kids 0 2 s (aA G (aC r i (aj (ak s))) 5 r.next (aa.node 16 x a e kids) ([]::s)).1).1).2.tail)=Q:=⟨_,rfl⟩
 rw[hQ];have HQ:=kH hQ;clear hq hQ;rw[show aX (aa.node 16 x a e kids) A c= .agg #[.int .i64 16,.string x,.int .i64 a,.int .i64 e,.slice A nk c] by rw[<- hnk];rfl];obtain⟨nx,bD,hnb,yI,qV,hrw,hwn,hfx⟩:=BS h hrb hnk;have H:=kH h;have HS:=kH hs;have HK:Hid (aD w B A 0 kids):=kH hk;have dI:=kH hrb;have fQ:=kH hnk;have kX:=kH hvk;have eH:=kH hih;have HCAP:Hid (nk<=c):=kH (by rw[<- hnk];exact hcap);have dJ:=kH hbase;clear h hs hk hrb hnk hvk hih hv hcap hbase;go_enter Tryz.func79,Tryz.ntmps79
 go_upto_if 32 with fail
 generalize hW3:World.alloc (World.alloc (World.setCell w _ _) _) _=W3
 obtain⟨HR3,fZ,iF,mi,iA,c5,p0,qw,qQ⟩:=BQ H HS hW3;clear hW3 qV hfx;go_cut [] (fun wx=> ∃Vx,Hid (aS E G (aC r i (aj (ak s))) Vx wx)/\Hid (KX E (fun g=>g=E.vi) W3 wx))
 case first=>
  cases i with
  | false=>
   go_wp2_with fail
   go_meet
   exact⟨V,by have:=HR3.out;rw[<- bD.out]at this;exact kH this,kH (KX.refl _ _ _)⟩
  | true=>
   obtain⟨iB,eY,hs0⟩:=BP HR3 iA iF dI bD hnb;go_wp2_with fail
   go_region_held3 (fun w'=>w'.cell? ⟨E.rp,5,none⟩=some (.map (some E.vi))/\w'.cell? ⟨w.heap.size,0,none⟩=some (.pointer (some ⟨E.rp,0,none⟩))) (exact eY.out _ (by assumption)) ((go_at_call 145;refine iB.out.mono ?_;rintro e5 w5 ⟨v5,rfl,jR,hb5⟩;obtain⟨hs5,w6,hrun,lh,hs7⟩:=BO HR3 hb5 hs0 v5))
   have HX:=kH (BN HR3 fZ dI bD dJ hb5 jR lh);clear hs5 hs7 lh hb5 jR hs0 hrun;go_wp2_with fail
   go_meet
   exact HX.out
 case rest=>
  obtain⟨Vx,gF,mq⟩:=hcut;obtain⟨HV,HD,qE,HU,rE⟩:=BM hB hsep gF mq HR3 fZ iF mi iA HK dI bD dJ hnb;obtain⟨gi,gb,uF,yY,hlk⟩:=BJ gF x;obtain⟨⟨q0,lp⟩,⟨n0,n1,n2,n3,n4,ln⟩,⟨c0,c1,c2,c8,lr⟩⟩:=HV.out.cells;clear c5 p0 qw qQ c8;obtain⟨L,hL⟩:∃L,aA G (aC r i (aj (ak s))) 5 nx (aa.node 16 x a e kids) ([]::s)=L:=⟨_,rfl⟩
  obtain⟨l,hl,hl1⟩:=Sg G (aC r i (aj (ak s))) 5 nx (aa.node 16 x a e kids) s;rw[hL]at hl;obtain⟨X,hX⟩:∃X,ae G i kids 0 2 s L.1=X:=⟨_,rfl⟩
  have hsl:qY r L.1:=by
   have:=dH.nz G r i (aj (ak s)) 5 (aa.node 16 x a e kids) ([]::s);rw[bD.out,hL]at this;exact this
  have hne:L.1.next=r.next+1:=by
   have:=oP G r i (aj (ak s)) 5 (aa.node 16 x a e kids) ([]::s);rw[bD.out,hL]at this;rw[this,bD.out]
  have hsx:qY r X.1:=dH.trans hsl (by rw[<- hX];exact xO G kids i 0 2 _ L.1)
  have hax:(ak (l::X.2)).length+r.next<=(ak s).length+X.1.next:=by
   have h1:=iT G kids i 0 2 s L.1;rw[hX,hne]at h1;rw[qC];omega
  have hnx2:X.1.next<=r.next+1+ag ((aa.node 16 x a e kids).kids.take 2):=by
   have h1:=o9 G kids i 0 2 s L.1;rw[hX,hne]at h1;exact h1
  have hxl:X.2.length=s.length:=by rw[<- hX];exact j5 G kids i 0 2 s L.1
  have pQ:=kH hsl;have jb:=kH hne;have HL:=kH hL;have Lh:=kH hl;have rG:=kH hl1;have HX:=kH hX;have Ah:=kH hsx;have Lx:=kH hax;have VV:=kH hnx2;have Tv:=kH hxl;have hin:=fun q=>(HV.out.drewN q).EK (HV.out.drewN q).S hsep
  have Ll:=kH hin;clear hin hsl hne hX hsx hax hnx2 hl hl1 hL hxl;go_wp2_with fail
  go_quiet (fail)
  go_wp2_with fail
  refine(Ll.out _).mono ?_;rintro e8 w8 ⟨b,m,rfl,hm,hb,gQ,iZ,wB,hbel,h8⟩;have hm1:w.heap.size<=m:=aaE HV.out.K.size hm;have hvar:=h8.nz (aa.node 16 x a e kids) ⟨rfl,rfl,rfl,rfl,rfl⟩ fQ.out HD.out qE.out 5 nx HU.out [] s m ms iZ wB (.inr hm1);rw[HL.out]at hvar;have Jn:=kH hvar;have Ha:Hid (∀{M2:Nat->Prop}{w':World}{r':RS}{V':RV},KX E M2 w8 w'->aS E G r' V' w'->(∀g,M2 g->g=E.vi\/g=m)->VW E G B ⟨kids,16,x,a,e,A,nk,c,w.heap.size+1,w.heap.size⟩ w (fun g=>g=E.vi\/ms.head? =some g) r' V' s p ms w'):=kH (fun hk hr hM2=>(HV.out.drewN _).outer hsep hbel hk hr (fun g hg=>by rcases hM2 g hg with e|e;exact .inl e;exact .inr (by rw[e];exact hm)) (.inl rfl));have xw:=kH hb;have H8:=kH h8;have HM:Hid (w.heap.size<=m):=kH hm1;obtain⟨⟨q8,zM⟩,⟨u0,u1,u2,u3,u4,lu⟩,⟨-,-,-,-,lr8⟩⟩:=h8.cells;have b0:=hb.cell 0;have b1:=hb.cell 1;have lb8:=hb.lt;clear hvar hm hb gQ iZ hbel h8 hm1;go_wp2_with fail
  refine Jn.out.mono ?_;rintro e9 w9 ⟨rfl,k9,V9,h9⟩;rw[Lh.out]at h9;have dx:=H8.out.xC k9 xw.out;have hhd:=h9.S.head;obtain⟨Qm,hbb,vL,-⟩:=hhd;have Kh:=Ha.out k9 h9.R (fun g hg=>.inr hg);obtain⟨⟨q9,lq9⟩,⟨-,-,-,-,n9,ln9⟩,-⟩:=Kh.cells;have hcall:=Kh.kids eH.out i 0 2 2 rfl fQ.out (by show 0+2<=nk;have:=kX.out.2.1;have:=fQ.out;omega) HCAP.out kX.out.2.2 (dI.out.kids (t:=(aa.node 16 x a e kids)) pQ.out (by have:=jb.out;omega) (by rw[jb.out];exact Nat.le_add_right _ _)) hsep (fun g hg=>.inl hg);rw[HX.out]at hcall;have HC:=kH hcall;have HO9:=kH Kh;have sw:=kH dx;have aaz:=kH Qm;have jc:Hid (E.base<=b/\E.base<=m):=kH ⟨hbb,vL⟩;clear hcall h9 dx Qm hbb vL Kh k9 q8 zM u0 u1 u2 u3 u4 lu lr8 b0 b1 lb8;go_wp2_with fail
  refine HC.out.mono ?_;rintro e10 bf ⟨rfl,k10,yA,h10⟩;have ji:=HO9.out.xC k10 sw.out
  have M5:¬(m=E.vi\/ms.head? =some m):=fun h=>by
   rcases h with h|h
   ·exact(wB.apart m (by simp)).2.2.2 h
   ·refine(List.nodup_cons.1 wB.nodup).1 ?_
    cases ms with
    | nil=>cases h
    | cons a t=>simp at h;rw[h];simp
  have F7:=k10.QU aaz.out M5;obtain⟨Y,hY⟩:∃Y,ae G i kids 2 1 (l::X.2) X.1=Y:=⟨_,rfl⟩
  have jT:(Y.1,Y.2.tail)=Q:=by
   rw[<- HQ.out,bD.out,HL.out,HX.out,Lh.out,<- hY];rfl
  have wD:bK bf E.base (some ⟨b,0,none⟩) (l::X.2) (m::ms):=⟨b,m,p,ms,rfl,rfl,jc.out.1,jc.out.2,ji,F7,h10.S⟩
  have h11:=h10.other wD;obtain⟨⟨Gx,lq11⟩,⟨-,-,-,-,n11,ln11⟩,-⟩:=h11.cells
  have hcall:=h11.kids eH.out i 2 1 3 rfl fQ.out (by show 2+1<=nk;have:=kX.out.2.1;have:=fQ.out;omega) HCAP.out (by have:=kX.out.2.2;rw[kX.out.1]at this;exact this) (dI.out.kids (t:=(aa.node 16 x a e kids)) Ah.out Lx.out VV.out) wB (fun g hg=>by
   rcases hg with hg|hg
   ·exact .inl (.inl hg)
   ·exact .inr (by have:=HM.out;simp at hg;omega))
  rw[hY]at hcall;have wW:=kH hcall;have aax:=kH ji;have H11:=kH h11;have oF:=kH jT;clear hcall h10 h11 ji F7 wD k10 M5 hY jT q9 lq9 n9 ln9 HC;go_wp2_with fail
  refine wW.out.mono ?_;rintro e12 mE ⟨rfl,k12,V12,h12⟩
  have HE:Hid (∃V',aS E G Q.1 V' mE/\bK mE E.base p Q.2 ms/\KX E (fun g=>g=E.vi\/ms.head? =some g) w mE):=kH (by
   rw[<- oF.out]
   exact(h12.other (bK.tail h12.S (H11.out.xC k12 aax.out))).end_)
  clear k12 h12 wW Gx n11;go_wp2_with fail
  try simp only[Exit.inBlock,Exit.then]
  refine bodyPost_ret (results_none rfl _ _ _) rfl ?_;exact⟨rfl,HE.out⟩
theorem Wq(E:RC)(G:aW)(B:Nat)(hB:B<=E.base)(x:ByteArray)(a e:Int)(kids:List aa)(hih:∀k∈kids,fI E G B k):fI E G B (.node 12 x a e kids):=by
 intro i s p ms r V w A c h hs hsep hk hcap hbase hv hrb;obtain⟨nk,hnk⟩:∃q,kids.length=q:=⟨_,rfl⟩
 have hvk:s.isEmpty=false/\kids.length=2/\lT s.isEmpty kids=true:=by
  rw[pY,if_neg (by decide),if_neg (by decide),if_pos (by decide)]at hv;simp only[aaF,Bool.not_eq_true',Bool.or_eq_true,decide_eq_true_eq]at hv;exact⟨hv.1.1.1,hv.1.1.2.resolve_left (by decide),hv.2⟩
 have hq:aF G i (aa.node 12 x a e kids) s r=((ae G i kids 0 2 s (aA G (aC r i (aj (ak s))) 4 r.next (aa.node 12 x a e kids) ([]::s)).1).1,fP (ae G i kids 0 2 s (aA G (aC r i (aj (ak s))) 4 r.next (aa.node 12 x a e kids) ([]::s)).1).2 ((aA G (aC r i (aj (ak s))) 4 r.next (aa.node 12 x a e kids) ([]::s)).2.headD [])):=by
  rw[bY,if_neg (by decide),if_neg (by decide),if_neg (by decide),if_neg (by decide),if_neg (by decide),if_pos rfl]
 rw[hq];obtain⟨Q,hQ⟩:∃Q,((ae G i kids 0 2 s (aA G (aC r i (aj (ak s))) 4 r.next (aa.node 12 x a e kids) ([]::s)).1).1,fP (ae G i kids 0 2 s (aA G (aC r i (aj (ak s))) 4 r.next (aa.node 12 x a e kids) ([]::s)).1).2 ((aA G (aC r i (aj (ak s))) 4 r.next (aa.node 12 x a e kids) ([]::s)).2.headD []))=Q:=⟨_,rfl⟩
 rw[hQ];have HQ:=kH hQ;clear hq hQ;rw[show aX (aa.node 12 x a e kids) A c= .agg #[.int .i64 12,.string x,.int .i64 a,.int .i64 e,.slice A nk c] by rw[<- hnk];rfl];obtain⟨nx,bD,hnb,yI,qV,hrw,hwn,hfx⟩:=BS h hrb hnk;have H:=kH h;have HS:=kH hs;have HK:Hid (aD w B A 0 kids):=kH hk;have dI:=kH hrb;have fQ:=kH hnk;have kX:=kH hvk;have eH:=kH hih;have HCAP:Hid (nk<=c):=kH (by rw[<- hnk];exact hcap);have dJ:=kH hbase;clear h hs hk hrb hnk hvk hih hv hcap hbase;go_enter Tryz.func79,Tryz.ntmps79
 go_upto_if 32 with fail
 generalize hW3:World.alloc (World.alloc (World.setCell w _ _) _) _=W3
 obtain⟨HR3,fZ,iF,mi,iA,c5,p0,qw,qQ⟩:=BQ H HS hW3;clear hW3 qV hfx;go_cut [] (fun wx=> ∃Vx,Hid (aS E G (aC r i (aj (ak s))) Vx wx)/\Hid (KX E (fun g=>g=E.vi) W3 wx))
 case first=>
  cases i with
  | false=>
   go_wp2_with fail
   go_meet
   exact⟨V,by have:=HR3.out;rw[<- bD.out]at this;exact kH this,kH (KX.refl _ _ _)⟩
  | true=>
   obtain⟨iB,eY,hs0⟩:=BP HR3 iA iF dI bD hnb;go_wp2_with fail
   go_region_held3 (fun w'=>w'.cell? ⟨E.rp,5,none⟩=some (.map (some E.vi))/\w'.cell? ⟨w.heap.size,0,none⟩=some (.pointer (some ⟨E.rp,0,none⟩))) (exact eY.out _ (by assumption)) ((go_at_call 145;refine iB.out.mono ?_;rintro e5 w5 ⟨v5,rfl,jR,hb5⟩;obtain⟨hs5,w6,hrun,lh,hs7⟩:=BO HR3 hb5 hs0 v5))
   have HX:=kH (BN HR3 fZ dI bD dJ hb5 jR lh);clear hs5 hs7 lh hb5 jR hs0 hrun;go_wp2_with fail
   go_meet
   exact HX.out
 case rest=>
  obtain⟨Vx,gF,mq⟩:=hcut;obtain⟨HV,HD,qE,HU,rE⟩:=BM hB hsep gF mq HR3 fZ iF mi iA HK dI bD dJ hnb;obtain⟨gi,gb,uF,yY,hlk⟩:=BJ gF x;obtain⟨⟨q0,lp⟩,⟨n0,n1,n2,n3,n4,ln⟩,⟨c0,c1,c2,c8,lr⟩⟩:=HV.out.cells;clear c5 p0 qw qQ c8;obtain⟨L,hL⟩:∃L,aA G (aC r i (aj (ak s))) 4 nx (aa.node 12 x a e kids) ([]::s)=L:=⟨_,rfl⟩
  obtain⟨l,hl,hl1⟩:=Sg G (aC r i (aj (ak s))) 4 nx (aa.node 12 x a e kids) s;rw[hL]at hl;obtain⟨X,hX⟩:∃X,ae G i kids 0 2 s L.1=X:=⟨_,rfl⟩
  have hsl:qY r L.1:=by
   have:=dH.nz G r i (aj (ak s)) 4 (aa.node 12 x a e kids) ([]::s);rw[bD.out,hL]at this;exact this
  have hne:L.1.next=r.next+1:=by
   have:=oP G r i (aj (ak s)) 4 (aa.node 12 x a e kids) ([]::s);rw[bD.out,hL]at this;rw[this,bD.out]
  have hsx:qY r X.1:=dH.trans hsl (by rw[<- hX];exact xO G kids i 0 2 _ L.1)
  have hax:(ak (l::X.2)).length+r.next<=(ak s).length+X.1.next:=by
   have h1:=iT G kids i 0 2 s L.1;rw[hX,hne]at h1;rw[qC];omega
  have hnx2:X.1.next<=r.next+1+ag ((aa.node 12 x a e kids).kids.take 2):=by
   have h1:=o9 G kids i 0 2 s L.1;rw[hX,hne]at h1;exact h1
  have hxl:X.2.length=s.length:=by rw[<- hX];exact j5 G kids i 0 2 s L.1
  have pQ:=kH hsl;have jb:=kH hne;have HL:=kH hL;have Lh:=kH hl;have rG:=kH hl1;have HX:=kH hX;have Ah:=kH hsx;have Lx:=kH hax;have VV:=kH hnx2;have Tv:=kH hxl;have hin:=fun q=>(HV.out.drewN q).EK (HV.out.drewN q).S hsep
  have Ll:=kH hin;clear hin hsl hne hX hsx hax hnx2 hl hl1 hL hxl;go_wp2_with fail
  go_quiet (fail)
  go_wp2_with fail
  refine(Ll.out _).mono ?_;rintro e8 w8 ⟨b,m,rfl,hm,hb,gQ,iZ,wB,hbel,h8⟩;have hm1:w.heap.size<=m:=aaE HV.out.K.size hm;have hvar:=h8.nz (aa.node 12 x a e kids) ⟨rfl,rfl,rfl,rfl,rfl⟩ fQ.out HD.out qE.out 4 nx HU.out [] s m ms iZ wB (.inr hm1);rw[HL.out]at hvar;have Jn:=kH hvar;have Ha:Hid (∀{M2:Nat->Prop}{w':World}{r':RS}{V':RV},KX E M2 w8 w'->aS E G r' V' w'->(∀g,M2 g->g=E.vi\/g=m)->VW E G B ⟨kids,12,x,a,e,A,nk,c,w.heap.size+1,w.heap.size⟩ w (fun g=>g=E.vi\/ms.head? =some g) r' V' s p ms w'):=kH (fun hk hr hM2=>(HV.out.drewN _).outer hsep hbel hk hr (fun g hg=>by rcases hM2 g hg with e|e;exact .inl e;exact .inr (by rw[e];exact hm)) (.inl rfl));have xw:=kH hb;have H8:=kH h8;have HM:Hid (w.heap.size<=m):=kH hm1;obtain⟨⟨q8,zM⟩,⟨u0,u1,u2,u3,u4,lu⟩,⟨-,-,-,-,lr8⟩⟩:=h8.cells;have b0:=hb.cell 0;have b1:=hb.cell 1;have lb8:=hb.lt;clear hvar hm hb gQ iZ hbel h8 hm1;go_wp2_with fail
  refine Jn.out.mono ?_;rintro e9 w9 ⟨rfl,k9,V9,h9⟩;rw[Lh.out]at h9;have dx:=H8.out.xC k9 xw.out;have hhd:=h9.S.head;obtain⟨Qm,hbb,vL,-⟩:=hhd;have Kh:=Ha.out k9 h9.R (fun g hg=>.inr hg);obtain⟨⟨q9,lq9⟩,⟨-,-,-,-,n9,ln9⟩,-⟩:=Kh.cells;have hcall:=Kh.kids eH.out i 0 2 2 rfl fQ.out (by show 0+2<=nk;have:=kX.out.2.1;have:=fQ.out;omega) HCAP.out kX.out.2.2 (dI.out.kids (t:=(aa.node 12 x a e kids)) pQ.out (by have:=jb.out;omega) (by rw[jb.out];exact Nat.le_add_right _ _)) hsep (fun g hg=>.inl hg);rw[HX.out]at hcall;have HC:=kH hcall;have HO9:=kH Kh;have sw:=kH dx;have aaz:=kH Qm;have jc:Hid (E.base<=b/\E.base<=m):=kH ⟨hbb,vL⟩;clear hcall h9 dx Qm hbb vL Kh k9 q8 zM u0 u1 u2 u3 u4 lu lr8 b0 b1 lb8;go_wp2_with fail
  refine HC.out.mono ?_;rintro e10 bf ⟨rfl,k10,yA,h10⟩;have ji:=HO9.out.xC k10 sw.out
  have M5:¬(m=E.vi\/ms.head? =some m):=fun h=>by
   rcases h with h|h
   ·exact(wB.apart m (by simp)).2.2.2 h
   ·refine(List.nodup_cons.1 wB.nodup).1 ?_
    cases ms with
    | nil=>cases h
    | cons a t=>simp at h;rw[h];simp
  have F7:=k10.QU aaz.out M5
  obtain⟨l0,s0,hX2⟩:∃l0 s0,X.2=l0::s0:=by
   have h1:=Tv.out;have h2:=kX.out.1
   cases hx:X.2 with
   | nil=>
    rw[hx]at h1
    cases s with
    | nil=>cases h2
    | cons a t=>cases h1
   | cons a t=>exact⟨a,t,rfl⟩
  have jT:(X.1,(l.foldl (fun a y=>cO a y.1 y.2) l0)::s0)=Q:=by
   rw[<- HQ.out,bD.out,HL.out,HX.out,Lh.out,hX2];rfl
  obtain⟨b0,m0,p0,ms0,hp0,hms0,hbb0,hbm0,NY,Qo,hst0⟩:∃b' m' p' ms',p=some ⟨b',0,none⟩/\ms=m'::ms'/\E.base<=b'/\E.base<=m'/\ai bf b' 95 #[.pointer p',.map (some m')]/\aZ jg bf m' (jF l0)/\bK bf E.base p' s0 ms':=by
   have:=h10.S;rw[hX2]at this;exact this
  subst hp0;subst hms0;rw[hX2]at h10;obtain⟨jm,hr11,hit,jh,hsz11⟩:=zI (P:=Tryz.prog) (t:=70) (kt:=9) (et:=3) Tryz.underlying70 F7;have d1:=ji.cell 1;have ld:=ji.lt;have hm0m:m0≠m:=fun e=>M5 (.inr (by rw[e];rfl))
  have hb0m:b0≠m0:=fun e=>Qo.qP NY e.symm
  obtain⟨it,yJ⟩:∃it,bf.heap.size=it:=⟨_,rfl⟩
  have hmit:m<it:=by rw[<- yJ];exact F7.lt
  have hm0it:m0<it:=by rw[<- yJ];exact Qo.lt
  have hb0it:b0<it:=by rw[<- yJ];exact NY.lt
  have hsA:az (fun g=>g=m0\/it<=g) bf jm:=(az.refl _ bf).below jh;have HM0:Hid (aZ jg jm m0 (jF l0)):=kH (Qo.below jh Qo.lt);have HIT:=kH hit;have HSA:=kH hsA;have H10:=kH h10;have HB0:=kH NY;have oF:=kH jT;have Eb:Hid (m<it/\m0<it/\b0<it/\m0≠m/\b0≠m0/\bf.heap.size=it):=kH ⟨hmit,hm0it,hb0it,hm0m,hb0m,yJ⟩;have yB:=kH hX2;clear hit hsA h10 NY Qo hst0 jT ji F7 k10 M5 hmit hm0it hb0it hm0m hb0m hX2 q9 lq9 n9 ln9 HC hsz11 jh hbb0 hbm0;go_wp2_with fail
  first|rw[yJ]at HIT⊢ |rw[yJ]at HIT
  clear yJ;go_loopg [] l.length (fun gk wr=> ∃(left:List (Value×Value)) (lz:jr),gk=left.length/\Hid (mD jg wr m it (jF l) left)/\Hid (az (fun g=>g=m0\/it<=g) bf wr)/\Hid (aZ jg wr m0 (jF lz))/\Hid ((left=(jF l).map (fun x=>(jg.pX x.1,x.2))/\lz=l0)\/(left=[]/\lz=(l.foldl (fun a y=>cO a y.1 y.2) l0))))
  case atStart=>exact⟨_,l0,by simp[jF],HIT,HSA,HM0,kH (.inl ⟨rfl,rfl⟩)⟩
  case round=>
   obtain⟨left,lz,hgk',HI,Nv,HM',HD'⟩:=hrel;have ZO:=HB0.out.since Nv.out (by have:=Eb.out;omega);rcases Bl (P:=Tryz.prog) 0 HI.out (by have:=Eb.out;omega) with⟨hl0,hnx⟩| ⟨kv,vv,left',w2,hperm,hmem,hnx,hit2,EN,hsz2,hent⟩
   ·subst hl0
    have hlz:lz=(l.foldl (fun a y=>cO a y.1 y.2) l0):=by
     rcases HD'.out with⟨h1,h2⟩| ⟨-,h2⟩
     ·have h3:=congrArg List.length h1
      simp[jF]at h3;rw[h2,List.length_eq_zero_iff.1 h3.symm];rfl
     ·exact h2
    have hs0:az (fun g=>g=m0) bf wr:=⟨Nv.out.os,Nv.out.tape,Nv.out.output,Nv.out.size,fun g hg hn=>Nv.out.block g hg (fun h=>h.elim hn (fun h=>by have:=Eb.out;omega))⟩
    have HE:Hid (∃V',aS E G Q.1 V' wr/\bK wr E.base (some ⟨b0,0,none⟩) Q.2 (m0::ms0)/\KX E (fun g=>g=E.vi\/(m0::ms0).head? =some g) w wr):=kH (by
     rw[<- oF.out,<- hlz]
     exact(H10.out.store hsep hs0 HM'.out (.inl (.inr rfl))).end_)
    clear hs0 hlz ZO HI Nv HM' HD';go_wp2_with fail
    try simp only[Exit.inBlock,Exit.then]
    refine bodyPost_ret (results_none rfl _ _ _) rfl ?_;exact⟨rfl,HE.out⟩
   ·obtain⟨y,n,hl,hkv,hvv,hleft,hlz⟩:∃y n,l=[(y,n)]/\kv= .string y/\vv= .int .i64 n/\left'=[]/\lz=l0:=by
     rcases HD'.out with⟨h1,h2⟩| ⟨h1,-⟩
     ·have h3:=rG.out
      cases hl:l with
      | nil=>
       rw[h1,hl]at hperm;exact absurd hperm.length_eq (by simp[jF])
      | cons z l'=>
       rw[hl]at h3;have h4:l'=[]:=by simp at h3;exact h3
       subst h4;obtain⟨y,n⟩:=z;rw[h1,hl]at hperm;have h5:=List.perm_singleton.1 hperm.symm;simp only[List.cons.injEq,Prod.mk.injEq]at h5;exact⟨y,n,rfl,h5.1.1,h5.1.2,h5.2,h2⟩
     ·rw[h1]at hperm
      exact absurd hperm.length_eq (by simp)
    subst hkv hvv hleft;obtain⟨w3,hrun,dR,hg3,hz3⟩:=fe (P:=Tryz.prog) (KK:=jg) (t:=70) (kt:=9) (et:=3) Tryz.underlying70 Tryz.underlying9 (HM'.out.since EN (by have:=Eb.out;omega)) y (.int .i64 n);change (Instr.mapUpdate 70 (.map (some m0)) (Value.string y) (.int .i64 n)).run Tryz.prog w2=_ at hrun;rw[xB]at dR;have ZN:=ZO.since EN (by have:=Eb.out;omega);have e1:=ZN.cell 1;have le:=ZN.lt;have hs2:az (fun g=>g=m0\/it<=g) bf w2:=Nv.out.trans (az.mono EN (fun g hg=>.inr (by omega)));have hs3:az (fun g=>g=m0\/it<=g) bf w3:=hs2.trans ((az.refl (fun g=>g=m0\/it<=g) w2).grown hg3 (fun k hk=>by cases hk;exact .inl (.inl rfl)));have hit3:=hit2.grown hg3 (by simp;have:=Eb.out;omega) (by simp;have:=Eb.out;omega);have iF:=kH hs3;have HM3:=kH dR;have HI3:=kH hit3;have HLL2:=kH hl;have HLZ:=kH hlz;have Lc:=kH hperm;clear hs2 hs3 dR hit3 hl hlz hperm hmem hit2 EN hsz2 hg3 hz3 ZO ZN;go_wp2_with fail
    go_roundg (gk - 1)
    case measure=>have h9:left.length=1:=Lc.out.length_eq;omega
    case rel=>
     refine⟨[],cO l0 y n,by have h9:left.length=1:=Lc.out.length_eq;show gk - 1=0;omega,HI3,iF,?_,kH (.inr ⟨rfl,?_⟩)⟩
     ·rw[HLZ.out]at HM3
      exact HM3
     ·rw[HLL2.out]
      rfl
theorem YH(E:RC)(G:aW)(B:Nat)(hB:B<=E.base)(x:ByteArray)(a e:Int)(kids:List aa)(hih:∀k∈kids,fI E G B k):fI E G B (.node 19 x a e kids):=by
 intro i s p ms r V w A c h hs hsep hk hcap hbase hv hrb;obtain⟨nk,hnk⟩:∃q,kids.length=q:=⟨_,rfl⟩
 have hvk:lT s.isEmpty kids=true:=by
  rw[pY,if_neg (by decide),if_neg (by decide),if_neg (by decide)]at hv;exact hv
 have hq:aF G i (aa.node 19 x a e kids) s r=ae G i kids 0 kids.length s (gH G s r (aC r i (aj (ak s))) (aa.node 19 x a e kids)):=by
  rw[bY];repeat (rw[if_neg (by decide)])
 rw[hq];obtain⟨Q,hQ⟩:∃Q,ae G i kids 0 kids.length s (gH G s r (aC r i (aj (ak s))) (aa.node 19 x a e kids))=Q:=⟨_,rfl⟩
 rw[hQ];have HQ:=kH hQ;clear hq hQ;rw[show aX (aa.node 19 x a e kids) A c= .agg #[.int .i64 19,.string x,.int .i64 a,.int .i64 e,.slice A nk c] by rw[<- hnk];rfl];obtain⟨nx,bD,hnb,yI,qV,hrw,hwn,hfx⟩:=BS h hrb hnk;have H:=kH h;have HS:=kH hs;have HK:Hid (aD w B A 0 kids):=kH hk;have dI:=kH hrb;have fQ:=kH hnk;have kX:=kH hvk;have eH:=kH hih;have HCAP:Hid (nk<=c):=kH (by rw[<- hnk];exact hcap);have dJ:=kH hbase;clear h hs hk hrb hnk hvk hih hv hcap hbase;go_enter Tryz.func79,Tryz.ntmps79
 go_upto_if 32 with fail
 generalize hW3:World.alloc (World.alloc (World.setCell w _ _) _) _=W3
 obtain⟨HR3,fZ,iF,mi,iA,c5,p0,qw,qQ⟩:=BQ H HS hW3;clear hW3 qV hfx;go_cut [] (fun wx=> ∃Vx,Hid (aS E G (aC r i (aj (ak s))) Vx wx)/\Hid (KX E (fun g=>g=E.vi) W3 wx))
 case first=>
  cases i with
  | false=>
   go_wp2_with fail
   go_meet
   exact⟨V,by have:=HR3.out;rw[<- bD.out]at this;exact kH this,kH (KX.refl _ _ _)⟩
  | true=>
   obtain⟨iB,eY,hs0⟩:=BP HR3 iA iF dI bD hnb;go_wp2_with fail
   go_region_held3 (fun w'=>w'.cell? ⟨E.rp,5,none⟩=some (.map (some E.vi))/\w'.cell? ⟨w.heap.size,0,none⟩=some (.pointer (some ⟨E.rp,0,none⟩))) (exact eY.out _ (by assumption)) ((go_at_call 145;refine iB.out.mono ?_;rintro e5 w5 ⟨v5,rfl,jR,hb5⟩;obtain⟨hs5,w6,hrun,lh,hs7⟩:=BO HR3 hb5 hs0 v5))
   have HX:=kH (BN HR3 fZ dI bD dJ hb5 jR lh);clear hs5 hs7 lh hb5 jR hs0 hrun;go_wp2_with fail
   go_meet
   exact HX.out
 case rest=>
  obtain⟨Vx,gF,mq⟩:=hcut;obtain⟨HV,HD,qE,HU,rE⟩:=BM hB hsep gF mq HR3 fZ iF mi iA HK dI bD dJ hnb;obtain⟨gi,gb,uF,yY,hlk⟩:=BJ gF x;obtain⟨⟨q0,lp⟩,⟨n0,n1,n2,n3,n4,ln⟩,⟨c0,c1,c2,c8,lr⟩⟩:=HV.out.cells;clear c5 p0 qw qQ c8;obtain⟨tq,qR⟩:∃tq,((aN G.globals x).filter fun j=>decide (jP G j=5))=tq:=⟨_,rfl⟩
  have HTQ:=kH qR
  have jT:ae G i kids 0 nk s (fC (aC r i (aj (ak s))) nx (aa.node 19 x a e kids) tq)=Q:=by
   rw[<- HQ.out,fQ.out,<- qR,<- bD.out];rfl
  have oF:=kH jT;have pQ:Hid (qY r (fC (aC r i (aj (ak s))) nx (aa.node 19 x a e kids) tq)):=kH (by have:=dH.Cv r i (aj (ak s)) (aa.node 19 x a e kids) tq;rw[bD.out]at this;exact this);have jb:Hid ((fC (aC r i (aj (ak s))) nx (aa.node 19 x a e kids) tq).next=r.next+1):=kH (by cases tq<;>rfl);clear jT;obtain⟨kk,hkk⟩:∃q,jP G gi=q:=⟨_,rfl⟩
  have hty:∀k,tq=some k->k=gi:=fun k hk=>by
   rw[<- qR]at hk;rw[<- uF.out]
   cases hl:bJ G.globals x with
   | none=>rw[show aN G.globals x=none from hl]at hk;cases hk
   | some y=>
    rw[show aN G.globals x=some y from hl]at hk;have:=(Option.filter_eq_some_iff.1 hk).1;simp only[aaI]at this;rw[<- this];rfl
  have htb:tq.isSome=(gb&&(kk==5)):=by
   rw[<- qR,<- yY.out,<- hkk,<- uF.out]
   cases hl:bJ G.globals x with
   | none=>rw[show aN G.globals x=none from hl];rfl
   | some y=>
    rw[show aN G.globals x=some y from hl];show(Option.filter (fun j=>decide (jP G j=5)) (some y)).isSome=(true&&(jP G y==5));by_cases hy:jP G y=5
    ·simp[hy]
    ·simp[hy]
  have nH:∀r' V' w',VW E G B ⟨kids,19,x,a,e,A,nk,c,w.heap.size+1,w.heap.size⟩ w (fun g=>g=E.vi\/ms.head? =some g) r' V' s p ms w'->(w'.cell? ⟨w.heap.size,0,none⟩=some (.pointer (some ⟨E.rp,0,none⟩))/\w'.cell? ⟨w.heap.size+1,0,none⟩=some (.int .i64 19)/\w'.cell? ⟨w.heap.size+1,1,none⟩=some (.string x)/\w'.cell? ⟨w.heap.size+1,2,none⟩=some (.int .i64 a)/\w'.cell? ⟨w.heap.size+1,3,none⟩=some (.int .i64 e)/\w'.cell? ⟨w.heap.size+1,4,none⟩=some (.slice A nk c)/\w'.cell? ⟨E.rp,2,none⟩=some (.map (some E.k))/\(Instr.lookup 71 (.map (some E.k)) (.int .i64 gi) false).run Tryz.prog w'= .ok (.int .i64 kk) w'):=fun r' V' w' hv=>by
   obtain⟨⟨y0,-⟩,⟨z0,z1,z2,z3,z4,-⟩,⟨-,-,d2,-,-⟩⟩:=hv.cells;exact⟨y0,z0,z1,z2,z3,z4,d2,by have:=uj w' E.k G.kinds hv.R.kn gi;rw[show(bJ G.kinds gi).getD 0=kk from hkk]at this;exact this⟩
  have eY:=kH nH;have kg:=fun q=>((HV.out.drewN q).drew).Oj (aa.node 19 x a e kids) ⟨rfl,rfl,rfl,rfl,rfl⟩ fQ.out qE.out nx HU.out tq gi hty
  rw[htb]at kg;have MZ:=fun q=>(HV.out.drewN q).drew
  have Q3:=kH MZ;have hlf:=fun q=>uj (wc.drewN q) E.k G.kinds (aZ.drewN gF.out.kn q) gi
  rw[show(bJ G.kinds gi).getD 0=kk from hkk]at hlf;clear nH MZ qR hty htb hkk
  cases gb with
  | false=>
   rw[Bool.false_and]at kg;have xg:=kH kg;clear kg;go_wp2_with fail
   go_quiet (fail)
   go_wp2_with fail
   have hS0:=eY.out _ _ _ (Q3.out nq);refine iI (fun w'=>(w'.cell? ⟨w.heap.size,0,none⟩=some (.pointer (some ⟨E.rp,0,none⟩))/\w'.cell? ⟨w.heap.size+1,0,none⟩=some (.int .i64 19)/\w'.cell? ⟨w.heap.size+1,1,none⟩=some (.string x)/\w'.cell? ⟨w.heap.size+1,2,none⟩=some (.int .i64 a)/\w'.cell? ⟨w.heap.size+1,3,none⟩=some (.int .i64 e)/\w'.cell? ⟨w.heap.size+1,4,none⟩=some (.slice A nk c)/\w'.cell? ⟨E.rp,2,none⟩=some (.map (some E.k))/\(Instr.lookup 71 (.map (some E.k)) (.int .i64 gi) false).run Tryz.prog w'= .ok (.int .i64 kk) w')) [] [true,true,true,true,true,true,true,true,true,true,true,true,true,true,false] (by kernel_rfl) (by kernel_rfl) rfl (by kernel_rfl) ?_;iterate 14((first|(refine jJ (by rfl) hS0 ?_)|(refine iX (by rfl) hS0 (by intro w' hSw;obtain⟨hs1,hs2,hs3,hs4,hs5,hs6,hs7,iZ⟩:=hSw;go_simp;rfl) ?_));simp only[Act.put,sA,sZ,sC])
   refine qg (by rfl) (by go_simp) ((xg.out _).mono ?_);rintro e8 w8 ⟨rfl,V8,h8⟩;refine⟨_,rfl,fun _=>eY.out _ _ _ h8,?_⟩;simp only[Act.put,sA,sZ,sC];refine mQ ?_;obtain⟨⟨q8,zM⟩,⟨-,-,-,-,n8,GD⟩,-⟩:=h8.cells;have hcall:=h8.kids eH.out i 0 nk nk (by omega) fQ.out (by show 0+nk<=nk;omega) HCAP.out kX.out (dI.out.kids (t:=(aa.node 19 x a e kids)) pQ.out (Nat.add_le_add_left pQ.out.next _) (rE.out _ jb.out)) hsep (fun g hg=>.inl hg);rw[oF.out]at hcall;have HC:=kH hcall;clear hcall h8;go_wp2_with fail
   refine HC.out.mono ?_;rintro e10 bf ⟨rfl,-,yA,h10⟩;have HE:Hid (∃V',aS E G Q.1 V' bf/\bK bf E.base p Q.2 ms/\KX E (fun g=>g=E.vi\/ms.head? =some g) w bf):=kH h10.end_;clear h10 HC q8 n8;go_wp2_with fail
   go_end0
   exact⟨rfl,HE.out⟩
  | true=>
   rw[Bool.true_and]at kg;have xg:=kH kg;clear kg;go_wp2_with fail
   go_quiet (fail)
   go_wp2_with fail
   have hS0:=eY.out _ _ _ (Q3.out nq);refine iI (fun w'=>(w'.cell? ⟨w.heap.size,0,none⟩=some (.pointer (some ⟨E.rp,0,none⟩))/\w'.cell? ⟨w.heap.size+1,0,none⟩=some (.int .i64 19)/\w'.cell? ⟨w.heap.size+1,1,none⟩=some (.string x)/\w'.cell? ⟨w.heap.size+1,2,none⟩=some (.int .i64 a)/\w'.cell? ⟨w.heap.size+1,3,none⟩=some (.int .i64 e)/\w'.cell? ⟨w.heap.size+1,4,none⟩=some (.slice A nk c)/\w'.cell? ⟨E.rp,2,none⟩=some (.map (some E.k))/\(Instr.lookup 71 (.map (some E.k)) (.int .i64 gi) false).run Tryz.prog w'= .ok (.int .i64 kk) w')) [] [true,true,true,true,true,true,true,true,true,true,true,true,true,true,false] (by kernel_rfl) (by kernel_rfl) rfl (by kernel_rfl) ?_;iterate 14((first|(refine jJ (by rfl) hS0 ?_)|(refine iX (by rfl) hS0 (by intro w' hSw;obtain⟨hs1,hs2,hs3,hs4,hs5,hs6,hs7,iZ⟩:=hSw;go_simp;rfl) ?_));simp only[Act.put,sA,sZ,sC])
   refine qg (by rfl) (by go_simp) ((xg.out _).mono ?_);rintro e8 w8 ⟨rfl,V8,h8⟩;refine⟨_,rfl,fun _=>eY.out _ _ _ h8,?_⟩;simp only[Act.put,sA,sZ,sC];refine mQ ?_;obtain⟨⟨q8,zM⟩,⟨-,-,-,-,n8,GD⟩,-⟩:=h8.cells;have hcall:=h8.kids eH.out i 0 nk nk (by omega) fQ.out (by show 0+nk<=nk;omega) HCAP.out kX.out (dI.out.kids (t:=(aa.node 19 x a e kids)) pQ.out (Nat.add_le_add_left pQ.out.next _) (rE.out _ jb.out)) hsep (fun g hg=>.inl hg);rw[oF.out]at hcall;have HC:=kH hcall;clear hcall h8;go_wp2_with fail
   refine HC.out.mono ?_;rintro e10 bf ⟨rfl,-,yA,h10⟩;have HE:Hid (∃V',aS E G Q.1 V' bf/\bK bf E.base p Q.2 ms/\KX E (fun g=>g=E.vi\/ms.head? =some g) w bf):=kH h10.end_;clear h10 HC q8 n8;go_wp2_with fail
   go_end0
   exact⟨rfl,HE.out⟩
end Go.Proofs.YtoepemlnlpamlaaGreat
