/- The law NamesStand holds: for every text and every number the law returns true, and its arguments read as before. No condition. Part 25: VisC0 VisC1. -/
import Derived.Test.YtoepemlnlpamlaaGreatStand24
set_option maxRecDepth 100000
set_option maxHeartbeats 4000000
namespace Go.Proofs.YtoepemlnlpamlaaGreat
open Go.RowKit
theorem Tk(E:RC)(G:bD)(B:Nat)(hB:B<=E.base)(x:ByteArray)(a e:Int)(kids:List aa)(hih:∀k∈kids,gQ E G B k):gQ E G B (.node 5 x a e kids):=by
 intro i s p ms r V w A c h hs hsep hk hcap hbase hv hrb;obtain⟨nk,hnk⟩:∃q,kids.length=q:=⟨_,rfl⟩
 have hvk:kids.length=3/\mq false kids=true:=by
  rw[qx,if_pos rfl]at hv;simp only[aad,decide_eq_true_eq]at hv;exact hv
 have hq:aL G i (aa.node 5 x a e kids) s r=((af G true kids 2 1 ([]::(af G false kids 0 2 [[]] { bF (aB r i (ah (aj s))) 2 r.next (aa.node 5 x a e kids) (decide ((bY G.globals x).getD 0≠(r.next:Int))) with owner:=(r.next:Int) }).2) (af G false kids 0 2 [[]] { bF (aB r i (ah (aj s))) 2 r.next (aa.node 5 x a e kids) (decide ((bY G.globals x).getD 0≠(r.next:Int))) with owner:=(r.next:Int) }).1).1,s):=by
  rw[di,if_neg (by decide),if_neg (by decide),if_pos rfl]
 rw[hq];obtain⟨Q,hQ⟩:∃Q,((af G true kids 2 1 ([]::(af G false kids 0 2 [[]] { bF (aB r i (ah (aj s))) 2 r.next (aa.node 5 x a e kids) (decide ((bY G.globals x).getD 0≠(r.next:Int))) with owner:=(r.next:Int) }).2) (af G false kids 0 2 [[]] { bF (aB r i (ah (aj s))) 2 r.next (aa.node 5 x a e kids) (decide ((bY G.globals x).getD 0≠(r.next:Int))) with owner:=(r.next:Int) }).1).1,s)=Q:=⟨_,rfl⟩
 rw[hQ];have HQ:=kH hQ;clear hq hQ;unfold bB;have aU:(aa.node 5 x a e kids).kind=5/\(aa.node 5 x a e kids).text=x/\(aa.node 5 x a e kids).at_=a/\(aa.node 5 x a e kids).end_=e/\(aa.node 5 x a e kids).kids=kids:=⟨rfl,rfl,rfl,rfl,rfl⟩
 rw[aU.1,aU.2.1,aU.2.2.1,aU.2.2.2.1,aU.2.2.2.2,hnk];rw[aU.2.2.2.2]at hk hcap;rw[hnk]at hcap;obtain⟨nx,hnx⟩:∃q,r.next=q:=⟨_,rfl⟩
 have hnb:nx<=1000000:=by have:=hrb.room;have:=hrb.most;omega
 have yT:nk<=1000000:=by have h1:=hrb.room;have h2:=hrb.most;have h3:=dU kids;rw[ai]at h1;omega
 have rq:w.cell? ⟨E.rp,7,none⟩=some (.int .i64 (nx:Int)):=by rw[<- hnx];exact h.blk.cell 7
 have hrw:=h.blk.lt;have hwn:IntKind.i64.wrap ((nx:Int)+1)=(nx:Int)+1:=IntWalk.i64_in _ (by omega);have hfx:=h.blk.frozen 7;have H:=kH h;have HS:=kH hs;have HK:=kH hk;have dC:=kH hrb;have aZ:=kH hnx;have gX:=kH hnk;have lS:=kH hvk;have fO:=kH hih;have HCAP:=kH hcap;have dh:=kH hbase;clear h hs hk hrb hnx hnk hvk hih hv aU hcap hbase;go_enter Tryz.func79,Tryz.ntmps79
 go_upto_if 32 with fail
 generalize hW3:(((w.setCell ⟨E.rp,7,none⟩ (.int .i64 ((nx:Int)+1))).alloc (.cells #[.pointer (some ⟨E.rp,0,none⟩)] 68)).alloc (.cells #[.int .i64 5,.string x,.int .i64 a,.int .i64 e,.slice A nk c] 24))=W3
 obtain⟨hr3,hk3⟩:=H.out.og (nx+1) (fun _=>False)
 have hbW:Below w.heap.size (w.setCell ⟨E.rp,7,none⟩ (.int .i64 ((nx:Int)+1))) W3:=by
  rw[<- hW3];have h1:=ae (w.setCell ⟨E.rp,7,none⟩ (.int .i64 ((nx:Int)+1))) (.cells #[.pointer (some ⟨E.rp,0,none⟩)] 68);have h2:=ae ((w.setCell ⟨E.rp,7,none⟩ (.int .i64 ((nx:Int)+1))).alloc (.cells #[.pointer (some ⟨E.rp,0,none⟩)] 68)) (.cells #[.int .i64 5,.string x,.int .i64 a,.int .i64 e,.slice A nk c] 24);have h3:=h1.trans (h2.mono (by simp));simpa using h3
 have jc:W3.heap.size=w.heap.size+2:=by rw[<- hW3];simp
 have jQ:ak W3 (w.heap.size+1) 24 #[.int .i64 5,.string x,.int .i64 a,.int .i64 e,.slice A nk c]:=by
  have:=ak.new ((w.setCell ⟨E.rp,7,none⟩ (.int .i64 ((nx:Int)+1))).alloc (.cells #[.pointer (some ⟨E.rp,0,none⟩)] 68)) 24 #[.int .i64 5,.string x,.int .i64 a,.int .i64 e,.slice A nk c];rw[hW3]at this;simpa using this
 have hp3:ak W3 w.heap.size 68 #[.pointer (some ⟨E.rp,0,none⟩)]:=by
  have:=(ak.new (w.setCell ⟨E.rp,7,none⟩ (.int .i64 ((nx:Int)+1))) 68 #[.pointer (some ⟨E.rp,0,none⟩)]).alloc (.cells #[.int .i64 5,.string x,.int .i64 a,.int .i64 e,.slice A nk c] 24);rw[hW3]at this;simpa using this
 have HR3:Hid (bf E G { r with next:=nx+1 } V W3):=kH (hr3.below (by simpa using hbW));have gq:Hid (KX E (fun _=>False) w W3):=kH (hk3.trans (KX.of_below (M:=fun _=>False) (by simpa using hbW)) (fun g hg=>.inl hg));have jE:Hid (aW W3 E.base p s ms):=kH (aW.kx gq.out H.out.dN HS.out (fun _ _ h=>h));have lG:=kH jQ;have gW:=kH hp3;have xP:=kH jc;have c5:W3.cell? ⟨E.rp,5,none⟩=some (.map (some E.vi)):=HR3.out.blk.cell 5;have p0:=hp3.cell 0;have qF:=HR3.out.blk.lt;have qX:=hp3.lt;clear hW3 hr3 hk3 hbW jQ hp3 jc rq hfx;go_cut [] (fun wx=> ∃Vx,Hid (bf E G (aB r i (ah (aj s))) Vx wx)/\Hid (KX E (fun g=>g=E.vi) W3 wx))
 case first=>
  cases i with
  | false=>
   go_wp2_with fail
   go_meet
   exact⟨V,by have:=HR3.out;rw[<- aZ.out]at this;exact kH this,kH (KX.refl _ _ _)⟩
  | true=>
   have hbz:E.base<=W3.heap.size:=aac dh.out gq.out.size;have hall:=oz E.base s p ms W3.drew (aW.below ((Below.refl _ W3).drew) jE.out) (by have:=dC.out.uP;have:=aZ.out;omega);have iV:=kH hall
   have gz:∀w':World,aA (fun g=>g=E.vi) W3 w'->w'.cell? ⟨E.rp,5,none⟩=some (.map (some E.vi))/\w'.cell? ⟨w.heap.size,0,none⟩=some (.pointer (some ⟨E.rp,0,none⟩)):=fun w' hw=>by
    have nm:∀{g:Nat}{t:TypeId}{cs:Array Value},ak W3 g t cs->g≠E.vi:=fun hb e=>by
     obtain⟨es,ck,ho⟩:=HR3.out.vi.isMap;subst e;have:W3.heap[_]? =some (Obj.cells _ _ (0,0)):=hb;rw[ho]at this;cases this
    exact⟨(HR3.out.blk.since hw (nm HR3.out.blk)).cell 5,(gW.out.since hw (nm gW.out)).cell 0⟩
   have gm:=kH gz;have hs0:aA (fun g=>g=E.vi) W3 W3.drew:=(aA.refl _ W3).drew
   have eG:(nx:Int) ∉ r.bH.map (·.1):=fun hm=>by
    obtain⟨y,hy,he⟩:=List.mem_map.1 hm;have:=dC.out.bH y hy;have:=aZ.out;omega
   have rD:=kH eG;clear hall gz eG;go_wp2_with fail
   go_region_held3 (fun w'=>w'.cell? ⟨E.rp,5,none⟩=some (.map (some E.vi))/\w'.cell? ⟨w.heap.size,0,none⟩=some (.pointer (some ⟨E.rp,0,none⟩))) (exact gm.out _ (by assumption)) ((go_at_call 145;refine iV.out.mono ?_;rintro e5 w5 ⟨v5,rfl,jY,hb5⟩;have hs5:=hs0.below hb5;obtain⟨w6,hrun,dM,ll,qH⟩:=bU (P:=Tryz.prog) (KK:=iN) (t:=72) (kt:=3) (et:=28) Tryz.underlying72 Tryz.underlying3 ((aY.drew HR3.out.vi).uH hb5) (nx:Int) v5;change (Instr.mapUpdate 72 (.map (some E.vi)) (Value.int .i64 (nx:Int)) v5).run Tryz.prog w5=_ at hrun;have hs6:aA (fun g=>g=E.vi) w5 w6:=(aA.refl (fun g=>g=E.vi) w5).grown ll (fun k hk=>by cases hk;exact .inl rfl);have hs7:=hs5.trans hs6))
   have hlen:(ah (aj s)).length=(aj s).length:=List.length_mergeSort _;have fV:Below W3.heap.size W3 w5:=((Below.refl _ W3).drew).trans hb5;have gG:=HR3.out.oh hbz fV (nx:Int) (ah (aj s)) v5 (by rw[hlen];exact jY) rD.out (fun g=>g=E.vi) rfl dM hs6;have gK:=kH gG;clear gG hs5 hs6 hs7 qH dM fV hb5 jY hs0 hrun ll;go_wp2_with fail
   go_meet
   exact⟨_,by have:=gK.out.1;rw[<- aZ.out]at this;exact kH this,kH gK.out.2⟩
 case rest=>
  obtain⟨Vx,ig,fQ⟩:=hcut;have iy:Hid (KX E (fun g=>g=E.vi) w wc):=kH ((gq.out.mono (fun _ hf=>hf.elim)).trans fQ.out (fun g hg=>.inl hg));have HV:Hid (VW E G B ⟨kids,5,x,a,e,A,nk,c,w.heap.size+1,w.heap.size⟩ w (fun g=>g=E.vi\/ms.head? =some g) (aB r i (ah (aj s))) Vx s p ms wc):=kH ⟨ig.out,aW.kx fQ.out HR3.out.dN jE.out (fun m hm e=>(hsep.apart m hm).2.2.2 e),HR3.out.kQ fQ.out lG.out,HR3.out.nU fQ.out gW.out,iy.out.mono (fun _ h=>.inl h),aK.below ((KX.low iy.out dh.out).mono hB) (aab _) _ _ _ HK.out,aac dh.out (KX.low iy.out dh.out).size,hB⟩;have hlk:=fun q=>fq (wc.drewN q) E.g G.globals (aY.drewN ig.out.gl q) x
  obtain⟨gi,hgi⟩:∃q,(bG G.globals x).getD 0=q:=⟨_,rfl⟩
  obtain⟨gb,hgb⟩:∃q,(bG G.globals x).isSome=q:=⟨_,rfl⟩
  rw[hgi,hgb]at hlk;obtain⟨⟨q0,lp⟩,⟨n0,n1,n2,n3,n4,ln⟩,⟨c0,c1,c2,c8,lr⟩⟩:=HV.out.cells;have uL:=kH hgi;have zq:=kH hgb;have hD:(aB r i (ah (aj s))).ds.length<=1000000:=by show r.ds.length<=_;have:=dC.out.ds;have:=aZ.out;omega
  have hP:(aB r i (ah (aj s))).aR.length<=1000000:=by show r.aR.length<=_;have:=dC.out.aR;have:=aZ.out;omega
  have hU:nx<(aB r i (ah (aj s))).uses.length:=by show nx<r.uses.length;have h1:=dC.out.room;have h2:=aZ.out;rw[ai]at h1;omega
  have HD:=kH hD;have qK:=kH hP;have HU:=kH hU;have kJ:∀u:RS,u.next=r.next+1->u.next<=r.next+1+ag ((aa.node 5 x a e kids).kids.take 0):=fun u hu=>by rw[hu];exact Nat.le_add_right _ _
  have rR:=kH kJ;clear hgi hgb c5 p0 qF qX kJ hD hP hU c8;obtain⟨D,WS⟩:∃D:RS,({ bF (aB r i (ah (aj s))) 2 nx (aa.node 5 x a e kids) (gi !=(nx:Int)) with owner:=(nx:Int) }:RS)=D:=⟨_,rfl⟩
  obtain⟨X,hX⟩:∃X,af G false kids 0 2 [[]] D=X:=⟨_,rfl⟩
  have kG:((af G true kids 2 1 ([]::X.2) X.1).1,s)=Q:=by
   rw[<- HQ.out,<- hX,<- WS,Qo,<- uL.out,aZ.out]
  have hsl:rz r D:=by
   have:=dW.trans (dW.declare r i (ah (aj s)) 2 (aa.node 5 x a e kids) (gi !=(nx:Int))) (dW.owner _ (nx:Int));rw[aZ.out]at this;rw[<- WS];exact this
  have hne:D.next=r.next+1:=by
   rw[<- WS];have:=rP r i (ah (aj s)) 2 (aa.node 5 x a e kids) (gi !=(nx:Int));rw[aZ.out]at this⊢;exact this
  have hal:(aj ([[]]:aT)).length=0:=rfl;have hsx:rz r X.1:=dW.trans hsl (by rw[<- hX];exact xS G kids false 0 2 _ D)
  have hax:(aj ([]::X.2)).length+r.next<=(aj s).length+X.1.next:=by
   have h1:=jl G kids false 0 2 [[]] D;rw[hX,hal,hne]at h1;rw[qI];show 0+_+_<=_;omega
  have hnx2:X.1.next<=r.next+1+ag ((aa.node 5 x a e kids).kids.take 2):=by
   have h1:=qO G kids false 0 2 [[]] D;rw[hX,hne]at h1;exact h1
  have ql:=kH hsl;have jv:=kH hne;have HDD:=kH WS;have HX:=kH hX;have oW:=kH kG;have Bg:=kH hsx;have Lc:=kH hax;have Vo:=kH hnx2;have hdec:=fun q=>(HV.out.drewN q).Qk (aa.node 5 x a e kids) ⟨rfl,rfl,rfl,rfl,rfl⟩ gX.out HD.out qK.out 2 nx HU.out (gi !=(nx:Int))
  have QR:=kH hdec;clear hdec kG hsl hne hX WS hsx hax hnx2 hal;go_wp2_with fail
  go_quiet (fail)
  go_wp2_with fail
  refine(QR.out _).mono ?_;rintro e8 w8 ⟨rfl,V8,h8⟩;obtain⟨⟨y8,ly8⟩,⟨-,-,-,-,z8,lz8⟩,⟨-,-,-,d8,ld8⟩⟩:=h8.cells;have fo8:=h8.R.blk.frozen 8;obtain⟨GU,zf⟩:=h8.R.Ob (nx:Int) (fun _=>False);obtain⟨W9,nX⟩:∃W9,w8.setCell ⟨E.rp,8,none⟩ (.int .i64 (nx:Int))=W9:=⟨_,rfl⟩
  rw[nX]at GU zf;have hr9':bf E G D V8 W9:=by rw[<- HDD.out];exact GU
  have h9:=h8.ND zf hr9' (fun _ _ hf=>hf) (fun _ hf=>hf.elim);obtain⟨ow,how⟩:∃q,(bF (aB r i (ah (aj s))) 2 nx (aa.node 5 x a e kids) (gi !=(nx:Int))).owner=q:=⟨_,rfl⟩
  rw[how]at d8;have hin9:=h9.EW (p1:=none) (s1:=[]) (ms1:=[]) ⟨rfl,rfl⟩ ⟨List.nodup_nil,fun m hm=>by cases hm⟩;have HIN9:=kH hin9;have H9:=kH h9;clear how h8 GU hr9' zf h9 hin9;go_wp2_with (rw[nX])
  refine HIN9.out.mono ?_;rintro e10 bJ ⟨b,m,rfl,hm,hb,iF,uZ,Wt,hbel,h10⟩;have hm1:w.heap.size<=m:=aac H9.out.K.size hm;have h11:=h10.other uZ;obtain⟨⟨Gy,lq11⟩,⟨-,-,-,-,n11,ln11⟩,-⟩:=h11.cells
  have hcall:=h11.kids fO.out false 0 2 2 rfl gX.out (by show 0+2<=nk;have:=lS.out.1;have:=gX.out;omega) HCAP.out lS.out.2 (dC.out.kids (t:=(aa.node 5 x a e kids)) ql.out (by have:=jv.out;show 0+r.next<=_;omega) (by rw[jv.out];exact Nat.le_add_right _ _)) Wt (fun g hg=>by
   rcases hg with hg|hg
   ·exact .inl (.inl hg)
   ·exact .inr (by simp at hg;omega))
  rw[HX.out]at hcall;have HC:=kH hcall;have HBEL:=kH hbel;have HM:Hid (W9.heap.size<=m/\w.heap.size<=m):=kH ⟨hm,hm1⟩;clear hcall h10 h11 hb uZ hbel iF hm hm1 nX fo8 d8 y8 z8 ly8 lz8 ld8;go_wp2_with fail
  refine HC.out.mono ?_;rintro e12 mW ⟨rfl,k12,V12,h12⟩
  have Jj:=kH (H9.out.outer hsep HBEL.out k12 h12.R (fun g hg=>by
   rcases hg with hg|hg
   ·exact .inl hg
   ·exact .inr (by have:=HM.out.1;simp at hg;omega)) (.inl rfl))
  have hin12:=h12.EW h12.S Wt;have HIN12:=kH hin12;have HM12:Hid (w.heap.size<=mW.heap.size):=kH h12.K.size;clear k12 h12 hin12 Gy lq11 n11 ln11 HC;go_wp2_with fail
  refine HIN12.out.mono ?_;rintro e13 uC ⟨b2,m2,rfl,hm2,hb2,PD,hs13,hsep13,WC,qf⟩;have eH:w.heap.size<=m2:=aac HM12.out hm2;have yE:=qf.other hs13;obtain⟨⟨q14,lq14⟩,⟨-,-,-,-,n14,ln14⟩,-⟩:=yE.cells
  have hcall:=yE.kids fO.out true 2 1 3 rfl gX.out (by show 2+1<=nk;have:=lS.out.1;have:=gX.out;omega) HCAP.out lS.out.2 (dC.out.kids (t:=(aa.node 5 x a e kids)) Bg.out Lc.out Vo.out) hsep13 (fun g hg=>by
   rcases hg with hg|hg
   ·exact .inl (.inl hg)
   ·exact .inr (by simp at hg;omega))
  have HC:=kH hcall;have HBEL13:=kH WC;have HM13:Hid (mW.heap.size<=m2):=kH hm2;clear hcall qf yE hb2 hs13 WC PD hm2 eH;go_wp2_with fail
  refine HC.out.mono ?_;rintro e15 Gm ⟨rfl,k15,V15,Eb⟩
  have HE:Hid (∃V',bf E G Q.1 V' Gm/\aW Gm E.base p Q.2 ms/\KX E (fun g=>g=E.vi\/ms.head? =some g) w Gm):=kH (by
   rw[<- oW.out]
   exact(Jj.out.outer hsep HBEL13.out k15 Eb.R (fun g hg=>by
    rcases hg with hg|hg
    ·exact .inl hg
    ·exact .inr (by have:=HM13.out;simp at hg;omega)) (.inl rfl)).end_)
  clear k15 Eb HC q14 n14;go_wp2_with fail
  try simp only[Exit.inBlock,Exit.then]
  refine bodyPost_ret (results_none rfl _ _ _) rfl ?_;exact⟨rfl,HE.out⟩
theorem VE(E:RC)(G:bD)(B:Nat)(hB:B<=E.base)(x:ByteArray)(a e:Int)(kids:List aa)(hih:∀k∈kids,gQ E G B k):gQ E G B (.node 16 x a e kids):=by
 intro i s p ms r V w A c h hs hsep hk hcap hbase hv hrb;obtain⟨nk,hnk⟩:∃q,kids.length=q:=⟨_,rfl⟩
 have hvk:s.isEmpty=false/\kids.length=3/\mq s.isEmpty kids=true:=by
  rw[qx,if_neg (by decide),if_neg (by decide),if_pos (by decide)]at hv;simp only[aad,Bool.not_eq_true',Bool.or_eq_true,decide_eq_true_eq]at hv;exact⟨hv.1.1.1,hv.1.2.resolve_left (by decide),hv.2⟩
 have hq:aL G i (aa.node 16 x a e kids) s r=((af G i kids 2 1 ((aD G (aB r i (ah (aj s))) 5 r.next (aa.node 16 x a e kids) ([]::s)).2.headD []::(af G i kids 0 2 s (aD G (aB r i (ah (aj s))) 5 r.next (aa.node 16 x a e kids) ([]::s)).1).2) (af G i kids 0 2 s (aD G (aB r i (ah (aj s))) 5 r.next (aa.node 16 x a e kids) ([]::s)).1).1).1,(af G i kids 2 1 ((aD G (aB r i (ah (aj s))) 5 r.next (aa.node 16 x a e kids) ([]::s)).2.headD []::(af G i kids 0 2 s (aD G (aB r i (ah (aj s))) 5 r.next (aa.node 16 x a e kids) ([]::s)).1).2) (af G i kids 0 2 s (aD G (aB r i (ah (aj s))) 5 r.next (aa.node 16 x a e kids) ([]::s)).1).1).2.tail):=by
  rw[di,if_neg (by decide),if_neg (by decide),if_neg (by decide),if_neg (by decide),if_neg (by decide),if_neg (by decide),if_pos rfl]
 rw[hq];obtain⟨Q,hQ⟩:∃Q,((af G i kids 2 1 ((aD G (aB r i (ah (aj s))) 5 r.next (aa.node 16 x a e kids) ([]::s)).2.headD []::(af G i kids 0 2 s (aD G (aB r i (ah (aj s))) 5 r.next (aa.node 16 x a e kids) ([]::s)).1).2) (af G i kids 0 2 s (aD G (aB r i (ah (aj s))) 5 r.next (aa.node 16 x a e kids) ([]::s)).1).1).1,(af G i kids 2 1 ((aD G (aB r i (ah (aj s))) 5 r.next (aa.node 16 x a e kids) ([]::s)).2.headD []::(af G i kids 0 2 s (aD G (aB r i (ah (aj s))) 5 r.next (aa.node 16 x a e kids) ([]::s)).1).2) (af G i kids 0 2 s (aD G (aB r i (ah (aj s))) 5 r.next (aa.node 16 x a e kids) ([]::s)).1).1).2.tail)=Q:=⟨_,rfl⟩
 rw[hQ];have HQ:=kH hQ;clear hq hQ;unfold bB;have aU:(aa.node 16 x a e kids).kind=16/\(aa.node 16 x a e kids).text=x/\(aa.node 16 x a e kids).at_=a/\(aa.node 16 x a e kids).end_=e/\(aa.node 16 x a e kids).kids=kids:=⟨rfl,rfl,rfl,rfl,rfl⟩
 rw[aU.1,aU.2.1,aU.2.2.1,aU.2.2.2.1,aU.2.2.2.2,hnk];rw[aU.2.2.2.2]at hk hcap;rw[hnk]at hcap;obtain⟨nx,hnx⟩:∃q,r.next=q:=⟨_,rfl⟩
 have hnb:nx<=1000000:=by have:=hrb.room;have:=hrb.most;omega
 have yT:nk<=1000000:=by have h1:=hrb.room;have h2:=hrb.most;have h3:=dU kids;rw[ai]at h1;omega
 have rq:w.cell? ⟨E.rp,7,none⟩=some (.int .i64 (nx:Int)):=by rw[<- hnx];exact h.blk.cell 7
 have hrw:=h.blk.lt;have hwn:IntKind.i64.wrap ((nx:Int)+1)=(nx:Int)+1:=IntWalk.i64_in _ (by omega);have hfx:=h.blk.frozen 7;have H:=kH h;have HS:=kH hs;have HK:=kH hk;have dC:=kH hrb;have aZ:=kH hnx;have gX:=kH hnk;have lS:=kH hvk;have fO:=kH hih;have HCAP:=kH hcap;have dh:=kH hbase;clear h hs hk hrb hnx hnk hvk hih hv aU hcap hbase;go_enter Tryz.func79,Tryz.ntmps79
 go_upto_if 32 with fail
 generalize hW3:(((w.setCell ⟨E.rp,7,none⟩ (.int .i64 ((nx:Int)+1))).alloc (.cells #[.pointer (some ⟨E.rp,0,none⟩)] 68)).alloc (.cells #[.int .i64 16,.string x,.int .i64 a,.int .i64 e,.slice A nk c] 24))=W3
 obtain⟨hr3,hk3⟩:=H.out.og (nx+1) (fun _=>False)
 have hbW:Below w.heap.size (w.setCell ⟨E.rp,7,none⟩ (.int .i64 ((nx:Int)+1))) W3:=by
  rw[<- hW3];have h1:=ae (w.setCell ⟨E.rp,7,none⟩ (.int .i64 ((nx:Int)+1))) (.cells #[.pointer (some ⟨E.rp,0,none⟩)] 68);have h2:=ae ((w.setCell ⟨E.rp,7,none⟩ (.int .i64 ((nx:Int)+1))).alloc (.cells #[.pointer (some ⟨E.rp,0,none⟩)] 68)) (.cells #[.int .i64 16,.string x,.int .i64 a,.int .i64 e,.slice A nk c] 24);have h3:=h1.trans (h2.mono (by simp));simpa using h3
 have jc:W3.heap.size=w.heap.size+2:=by rw[<- hW3];simp
 have jQ:ak W3 (w.heap.size+1) 24 #[.int .i64 16,.string x,.int .i64 a,.int .i64 e,.slice A nk c]:=by
  have:=ak.new ((w.setCell ⟨E.rp,7,none⟩ (.int .i64 ((nx:Int)+1))).alloc (.cells #[.pointer (some ⟨E.rp,0,none⟩)] 68)) 24 #[.int .i64 16,.string x,.int .i64 a,.int .i64 e,.slice A nk c];rw[hW3]at this;simpa using this
 have hp3:ak W3 w.heap.size 68 #[.pointer (some ⟨E.rp,0,none⟩)]:=by
  have:=(ak.new (w.setCell ⟨E.rp,7,none⟩ (.int .i64 ((nx:Int)+1))) 68 #[.pointer (some ⟨E.rp,0,none⟩)]).alloc (.cells #[.int .i64 16,.string x,.int .i64 a,.int .i64 e,.slice A nk c] 24);rw[hW3]at this;simpa using this
 have HR3:Hid (bf E G { r with next:=nx+1 } V W3):=kH (hr3.below (by simpa using hbW));have gq:Hid (KX E (fun _=>False) w W3):=kH (hk3.trans (KX.of_below (M:=fun _=>False) (by simpa using hbW)) (fun g hg=>.inl hg));have jE:Hid (aW W3 E.base p s ms):=kH (aW.kx gq.out H.out.dN HS.out (fun _ _ h=>h));have lG:=kH jQ;have gW:=kH hp3;have xP:=kH jc;have c5:W3.cell? ⟨E.rp,5,none⟩=some (.map (some E.vi)):=HR3.out.blk.cell 5;have p0:=hp3.cell 0;have qF:=HR3.out.blk.lt;have qX:=hp3.lt;clear hW3 hr3 hk3 hbW jQ hp3 jc rq hfx;go_cut [] (fun wx=> ∃Vx,Hid (bf E G (aB r i (ah (aj s))) Vx wx)/\Hid (KX E (fun g=>g=E.vi) W3 wx))
 case first=>
  cases i with
  | false=>
   go_wp2_with fail
   go_meet
   exact⟨V,by have:=HR3.out;rw[<- aZ.out]at this;exact kH this,kH (KX.refl _ _ _)⟩
  | true=>
   have hbz:E.base<=W3.heap.size:=aac dh.out gq.out.size;have hall:=oz E.base s p ms W3.drew (aW.below ((Below.refl _ W3).drew) jE.out) (by have:=dC.out.uP;have:=aZ.out;omega);have iV:=kH hall
   have gz:∀w':World,aA (fun g=>g=E.vi) W3 w'->w'.cell? ⟨E.rp,5,none⟩=some (.map (some E.vi))/\w'.cell? ⟨w.heap.size,0,none⟩=some (.pointer (some ⟨E.rp,0,none⟩)):=fun w' hw=>by
    have nm:∀{g:Nat}{t:TypeId}{cs:Array Value},ak W3 g t cs->g≠E.vi:=fun hb e=>by
     obtain⟨es,ck,ho⟩:=HR3.out.vi.isMap;subst e;have:W3.heap[_]? =some (Obj.cells _ _ (0,0)):=hb;rw[ho]at this;cases this
    exact⟨(HR3.out.blk.since hw (nm HR3.out.blk)).cell 5,(gW.out.since hw (nm gW.out)).cell 0⟩
   have gm:=kH gz;have hs0:aA (fun g=>g=E.vi) W3 W3.drew:=(aA.refl _ W3).drew
   have eG:(nx:Int) ∉ r.bH.map (·.1):=fun hm=>by
    obtain⟨y,hy,he⟩:=List.mem_map.1 hm;have:=dC.out.bH y hy;have:=aZ.out;omega
   have rD:=kH eG;clear hall gz eG;go_wp2_with fail
   go_region_held3 (fun w'=>w'.cell? ⟨E.rp,5,none⟩=some (.map (some E.vi))/\w'.cell? ⟨w.heap.size,0,none⟩=some (.pointer (some ⟨E.rp,0,none⟩))) (exact gm.out _ (by assumption)) ((go_at_call 145;refine iV.out.mono ?_;rintro e5 w5 ⟨v5,rfl,jY,hb5⟩;have hs5:=hs0.below hb5;obtain⟨w6,hrun,dM,ll,qH⟩:=bU (P:=Tryz.prog) (KK:=iN) (t:=72) (kt:=3) (et:=28) Tryz.underlying72 Tryz.underlying3 ((aY.drew HR3.out.vi).uH hb5) (nx:Int) v5;change (Instr.mapUpdate 72 (.map (some E.vi)) (Value.int .i64 (nx:Int)) v5).run Tryz.prog w5=_ at hrun;have hs6:aA (fun g=>g=E.vi) w5 w6:=(aA.refl (fun g=>g=E.vi) w5).grown ll (fun k hk=>by cases hk;exact .inl rfl);have hs7:=hs5.trans hs6))
   have hlen:(ah (aj s)).length=(aj s).length:=List.length_mergeSort _;have fV:Below W3.heap.size W3 w5:=((Below.refl _ W3).drew).trans hb5;have gG:=HR3.out.oh hbz fV (nx:Int) (ah (aj s)) v5 (by rw[hlen];exact jY) rD.out (fun g=>g=E.vi) rfl dM hs6;have gK:=kH gG;clear gG hs5 hs6 hs7 qH dM fV hb5 jY hs0 hrun ll;go_wp2_with fail
   go_meet
   exact⟨_,by have:=gK.out.1;rw[<- aZ.out]at this;exact kH this,kH gK.out.2⟩
 case rest=>
  obtain⟨Vx,ig,fQ⟩:=hcut;have iy:Hid (KX E (fun g=>g=E.vi) w wc):=kH ((gq.out.mono (fun _ hf=>hf.elim)).trans fQ.out (fun g hg=>.inl hg));have HV:Hid (VW E G B ⟨kids,16,x,a,e,A,nk,c,w.heap.size+1,w.heap.size⟩ w (fun g=>g=E.vi\/ms.head? =some g) (aB r i (ah (aj s))) Vx s p ms wc):=kH ⟨ig.out,aW.kx fQ.out HR3.out.dN jE.out (fun m hm e=>(hsep.apart m hm).2.2.2 e),HR3.out.kQ fQ.out lG.out,HR3.out.nU fQ.out gW.out,iy.out.mono (fun _ h=>.inl h),aK.below ((KX.low iy.out dh.out).mono hB) (aab _) _ _ _ HK.out,aac dh.out (KX.low iy.out dh.out).size,hB⟩;have hlk:=fun q=>fq (wc.drewN q) E.g G.globals (aY.drewN ig.out.gl q) x
  obtain⟨gi,hgi⟩:∃q,(bG G.globals x).getD 0=q:=⟨_,rfl⟩
  obtain⟨gb,hgb⟩:∃q,(bG G.globals x).isSome=q:=⟨_,rfl⟩
  rw[hgi,hgb]at hlk;obtain⟨⟨q0,lp⟩,⟨n0,n1,n2,n3,n4,ln⟩,⟨c0,c1,c2,c8,lr⟩⟩:=HV.out.cells;have uL:=kH hgi;have zq:=kH hgb;have hD:(aB r i (ah (aj s))).ds.length<=1000000:=by show r.ds.length<=_;have:=dC.out.ds;have:=aZ.out;omega
  have hP:(aB r i (ah (aj s))).aR.length<=1000000:=by show r.aR.length<=_;have:=dC.out.aR;have:=aZ.out;omega
  have hU:nx<(aB r i (ah (aj s))).uses.length:=by show nx<r.uses.length;have h1:=dC.out.room;have h2:=aZ.out;rw[ai]at h1;omega
  have HD:=kH hD;have qK:=kH hP;have HU:=kH hU;have kJ:∀u:RS,u.next=r.next+1->u.next<=r.next+1+ag ((aa.node 16 x a e kids).kids.take 0):=fun u hu=>by rw[hu];exact Nat.le_add_right _ _
  have rR:=kH kJ;clear hgi hgb c5 p0 qF qX kJ hD hP hU c8;obtain⟨L,hL⟩:∃L,aD G (aB r i (ah (aj s))) 5 nx (aa.node 16 x a e kids) ([]::s)=L:=⟨_,rfl⟩
  obtain⟨l,hl,hl1⟩:=Ry G (aB r i (ah (aj s))) 5 nx (aa.node 16 x a e kids) s;rw[hL]at hl;obtain⟨X,hX⟩:∃X,af G i kids 0 2 s L.1=X:=⟨_,rfl⟩
  have hsl:rz r L.1:=by
   have:=dW.nS G r i (ah (aj s)) 5 (aa.node 16 x a e kids) ([]::s);rw[aZ.out,hL]at this;exact this
  have hne:L.1.next=r.next+1:=by
   have:=pE G r i (ah (aj s)) 5 (aa.node 16 x a e kids) ([]::s);rw[aZ.out,hL]at this;rw[this,aZ.out]
  have hsx:rz r X.1:=dW.trans hsl (by rw[<- hX];exact xS G kids i 0 2 _ L.1)
  have hax:(aj (l::X.2)).length+r.next<=(aj s).length+X.1.next:=by
   have h1:=jl G kids i 0 2 s L.1;rw[hX,hne]at h1;rw[qI];omega
  have hnx2:X.1.next<=r.next+1+ag ((aa.node 16 x a e kids).kids.take 2):=by
   have h1:=qO G kids i 0 2 s L.1;rw[hX,hne]at h1;exact h1
  have hxl:X.2.length=s.length:=by rw[<- hX];exact kM G kids i 0 2 s L.1
  have ql:=kH hsl;have jv:=kH hne;have HL:=kH hL;have KZ:=kH hl;have uK:=kH hl1;have HX:=kH hX;have Bg:=kH hsx;have Lc:=kH hax;have Vo:=kH hnx2;have Sr:=kH hxl;have hin:=fun q=>(HV.out.drewN q).EW (HV.out.drewN q).S hsep
  have Bn:=kH hin;clear hin hsl hne hX hsx hax hnx2 hl hl1 hL hxl;go_wp2_with fail
  go_quiet (fail)
  go_wp2_with fail
  refine(Bn.out _).mono ?_;rintro e8 w8 ⟨b,m,rfl,hm,hb,iF,jh,wL,hbel,h8⟩;have hm1:w.heap.size<=m:=aac iy.out.size hm;have hvar:=h8.nS (aa.node 16 x a e kids) ⟨rfl,rfl,rfl,rfl,rfl⟩ gX.out HD.out qK.out 5 nx HU.out [] s m ms jh wL (.inr hm1);rw[HL.out]at hvar;have Jg:=kH hvar;have HOU:Hid (∀{M2:Nat->Prop}{w':World}{r':RS}{V':RV},KX E M2 w8 w'->bf E G r' V' w'->(∀g,M2 g->g=E.vi\/g=m)->VW E G B ⟨kids,16,x,a,e,A,nk,c,w.heap.size+1,w.heap.size⟩ w (fun g=>g=E.vi\/ms.head? =some g) r' V' s p ms w'):=kH (fun hk hr hM2=>(HV.out.drewN _).outer hsep hbel hk hr (fun g hg=>by rcases hM2 g hg with e|e;exact .inl e;exact .inr (by rw[e];exact hm)) (.inl rfl));have rH:=kH hb;have H8:=kH h8;have HM:Hid (w.heap.size<=m):=kH hm1;obtain⟨⟨q8,Ac⟩,⟨u0,u1,u2,u3,u4,lu⟩,⟨-,-,-,-,lr8⟩⟩:=h8.cells;have b0:=hb.cell 0;have b1:=hb.cell 1;have lb8:=hb.lt;clear hvar hm hb iF jh hbel h8 hm1;go_wp2_with fail
  refine Jg.out.mono ?_;rintro e9 w9 ⟨rfl,k9,V9,h9⟩;rw[KZ.out]at h9;have ek:=H8.out.xG k9 rH.out;have hhd:=h9.S.head;obtain⟨Pz,hbb,vQ,-⟩:=hhd;have J7:=HOU.out k9 h9.R (fun g hg=>.inr hg);obtain⟨⟨q9,lq9⟩,⟨-,-,-,-,n9,ln9⟩,-⟩:=J7.cells;have hcall:=J7.kids fO.out i 0 2 2 rfl gX.out (by show 0+2<=nk;have:=lS.out.2.1;have:=gX.out;omega) HCAP.out lS.out.2.2 (dC.out.kids (t:=(aa.node 16 x a e kids)) ql.out (by have:=jv.out;omega) (by rw[jv.out];exact Nat.le_add_right _ _)) hsep (fun g hg=>.inl hg);rw[HX.out]at hcall;have HC:=kH hcall;have HO9:=kH J7;have vT:=kH ek;have ZH:=kH Pz;have oZ:Hid (E.base<=b/\E.base<=m):=kH ⟨hbb,vQ⟩;clear hcall h9 ek Pz hbb vQ J7 k9 q8 Ac u0 u1 u2 u3 u4 lu lr8 b0 b1 lb8;go_wp2_with fail
  refine HC.out.mono ?_;rintro e10 bJ ⟨rfl,k10,yH,h10⟩;have jW:=HO9.out.xG k10 vT.out
  have J8:¬(m=E.vi\/ms.head? =some m):=fun h=>by
   rcases h with h|h
   ·exact(wL.apart m (by simp)).2.2.2 h
   ·refine(List.nodup_cons.1 wL.nodup).1 ?_
    cases ms with
    | nil=>cases h
    | cons a t=>simp at h;rw[h];simp
  have Gd:=k10.Qr ZH.out J8;obtain⟨Y,hY⟩:∃Y,af G i kids 2 1 (l::X.2) X.1=Y:=⟨_,rfl⟩
  have kG:(Y.1,Y.2.tail)=Q:=by
   rw[<- HQ.out,aZ.out,HL.out,HX.out,KZ.out,<- hY];rfl
  have uZ:aW bJ E.base (some ⟨b,0,none⟩) (l::X.2) (m::ms):=⟨b,m,p,ms,rfl,rfl,oZ.out.1,oZ.out.2,jW,Gd,h10.S⟩
  have h11:=h10.other uZ;obtain⟨⟨Gy,lq11⟩,⟨-,-,-,-,n11,ln11⟩,-⟩:=h11.cells
  have hcall:=h11.kids fO.out i 2 1 3 rfl gX.out (by show 2+1<=nk;have:=lS.out.2.1;have:=gX.out;omega) HCAP.out (by have:=lS.out.2.2;rw[lS.out.1]at this;exact this) (dC.out.kids (t:=(aa.node 16 x a e kids)) Bg.out Lc.out Vo.out) wL (fun g hg=>by
   rcases hg with hg|hg
   ·exact .inl (.inl hg)
   ·exact .inr (by have:=HM.out;simp at hg;omega))
  rw[hY]at hcall;have ug:=kH hcall;have HB10:=kH jW;have H11:=kH h11;have oW:=kH kG;clear hcall h10 h11 jW Gd uZ k10 J8 hY kG q9 lq9 n9 ln9 HC;go_wp2_with fail
  refine ug.out.mono ?_;rintro e12 mW ⟨rfl,k12,V12,h12⟩
  have HE:Hid (∃V',bf E G Q.1 V' mW/\aW mW E.base p Q.2 ms/\KX E (fun g=>g=E.vi\/ms.head? =some g) w mW):=kH (by
   rw[<- oW.out]
   exact(h12.other (aW.tail h12.S (H11.out.xG k12 HB10.out))).end_)
  clear k12 h12 ug Gy n11;go_wp2_with fail
  try simp only[Exit.inBlock,Exit.then]
  refine bodyPost_ret (results_none rfl _ _ _) rfl ?_;exact⟨rfl,HE.out⟩
end Go.Proofs.YtoepemlnlpamlaaGreat
