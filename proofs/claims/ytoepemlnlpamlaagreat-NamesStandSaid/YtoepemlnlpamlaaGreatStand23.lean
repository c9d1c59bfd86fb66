/- The law NamesStand holds: for every text and every number the law returns true, and its arguments read as before. No condition. Part 23: VisA1 VisA2 VisA3 VisB0. -/
import Derived.Test.YtoepemlnlpamlaaGreatStand22
set_option maxRecDepth 100000
set_option maxHeartbeats 4000000
namespace Go.Proofs.YtoepemlnlpamlaaGreat
open Go.RowKit
theorem Tm(E:RC)(G:bD)(B:Nat)(hB:B<=E.base)(x:ByteArray)(a e:Int)(kids:List aa)(hih:∀k∈kids,gQ E G B k):gQ E G B (.node 20 x a e kids):=by
 intro i s p ms r V w A c h hs hsep hk hcap hbase hv hrb;obtain⟨nk,hnk⟩:∃q,kids.length=q:=⟨_,rfl⟩
 have hvk:mq s.isEmpty kids=true:=by
  rw[qx,if_neg (by decide),if_neg (by decide),if_neg (by decide)]at hv;exact hv
 have hq:aL G i (aa.node 20 x a e kids) s r=af G i kids 0 kids.length s (ik G s r (aB r i (ah (aj s))) (aa.node 20 x a e kids)):=by
  rw[di];repeat (rw[if_neg (by decide)])
 rw[hq];obtain⟨Q,hQ⟩:∃Q,af G i kids 0 kids.length s (ik G s r (aB r i (ah (aj s))) (aa.node 20 x a e kids))=Q:=⟨_,rfl⟩
 rw[hQ];have HQ:=kH hQ;clear hq hQ;unfold bB;have aU:(aa.node 20 x a e kids).kind=20/\(aa.node 20 x a e kids).text=x/\(aa.node 20 x a e kids).at_=a/\(aa.node 20 x a e kids).end_=e/\(aa.node 20 x a e kids).kids=kids:=⟨rfl,rfl,rfl,rfl,rfl⟩
 rw[aU.1,aU.2.1,aU.2.2.1,aU.2.2.2.1,aU.2.2.2.2,hnk];rw[aU.2.2.2.2]at hk hcap;rw[hnk]at hcap;obtain⟨nx,hnx⟩:∃q,r.next=q:=⟨_,rfl⟩
 have hnb:nx<=1000000:=by have:=hrb.room;have:=hrb.most;omega
 have yT:nk<=1000000:=by have h1:=hrb.room;have h2:=hrb.most;have h3:=dU kids;rw[ai]at h1;omega
 have rq:w.cell? ⟨E.rp,7,none⟩=some (.int .i64 (nx:Int)):=by rw[<- hnx];exact h.blk.cell 7
 have hrw:=h.blk.lt;have hwn:IntKind.i64.wrap ((nx:Int)+1)=(nx:Int)+1:=IntWalk.i64_in _ (by omega);have hfx:=h.blk.frozen 7;have H:=kH h;have HS:=kH hs;have HK:=kH hk;have dC:=kH hrb;have aZ:=kH hnx;have gX:=kH hnk;have lS:=kH hvk;have fO:=kH hih;have HCAP:=kH hcap;have dh:=kH hbase;clear h hs hk hrb hnx hnk hvk hih hv aU hcap hbase;go_enter Tryz.func79,Tryz.ntmps79
 go_upto_if 32 with fail
 generalize hW3:(((w.setCell ⟨E.rp,7,none⟩ (.int .i64 ((nx:Int)+1))).alloc (.cells #[.pointer (some ⟨E.rp,0,none⟩)] 68)).alloc (.cells #[.int .i64 20,.string x,.int .i64 a,.int .i64 e,.slice A nk c] 24))=W3
 obtain⟨hr3,hk3⟩:=H.out.og (nx+1) (fun _=>False)
 have hbW:Below w.heap.size (w.setCell ⟨E.rp,7,none⟩ (.int .i64 ((nx:Int)+1))) W3:=by
  rw[<- hW3];have h1:=ae (w.setCell ⟨E.rp,7,none⟩ (.int .i64 ((nx:Int)+1))) (.cells #[.pointer (some ⟨E.rp,0,none⟩)] 68);have h2:=ae ((w.setCell ⟨E.rp,7,none⟩ (.int .i64 ((nx:Int)+1))).alloc (.cells #[.pointer (some ⟨E.rp,0,none⟩)] 68)) (.cells #[.int .i64 20,.string x,.int .i64 a,.int .i64 e,.slice A nk c] 24);have h3:=h1.trans (h2.mono (by simp));simpa using h3
 have jc:W3.heap.size=w.heap.size+2:=by rw[<- hW3];simp
 have jQ:ak W3 (w.heap.size+1) 24 #[.int .i64 20,.string x,.int .i64 a,.int .i64 e,.slice A nk c]:=by
  have:=ak.new ((w.setCell ⟨E.rp,7,none⟩ (.int .i64 ((nx:Int)+1))).alloc (.cells #[.pointer (some ⟨E.rp,0,none⟩)] 68)) 24 #[.int .i64 20,.string x,.int .i64 a,.int .i64 e,.slice A nk c];rw[hW3]at this;simpa using this
 have hp3:ak W3 w.heap.size 68 #[.pointer (some ⟨E.rp,0,none⟩)]:=by
  have:=(ak.new (w.setCell ⟨E.rp,7,none⟩ (.int .i64 ((nx:Int)+1))) 68 #[.pointer (some ⟨E.rp,0,none⟩)]).alloc (.cells #[.int .i64 20,.string x,.int .i64 a,.int .i64 e,.slice A nk c] 24);rw[hW3]at this;simpa using this
 have HR3:Hid (bf E G { r with next:=nx+1 } V W3):=kH (hr3.below (by simpa using hbW));have gq:Hid (KX E (fun _=>False) w W3):=kH (hk3.trans (KX.of_below (M:=fun _=>False) (by simpa using hbW)) (fun g hg=>.inl hg));have jE:Hid (aW W3 E.base p s ms):=kH (aW.kx gq.out H.out.dN HS.out (fun _ _ h=>h));have lG:=kH jQ;have gW:=kH hp3;have xP:=kH jc;have c5:W3.cell? ⟨E.rp,5,none⟩=some (.map (some E.vi)):=HR3.out.blk.cell 5;have p0:=hp3.cell 0;have qF:=HR3.out.blk.lt;have qX:=hp3.lt;clear hW3 hr3 hk3 hbW jQ hp3 jc rq hfx;go_cut [] (fun wx=> ∃Vx,Hid (bf E G (aB r i (ah (aj s))) Vx wx)/\Hid (KX E (fun g=>g=E.vi) W3 wx))
 case first=>
  cases i with
  | false=>
   go_wp2_with fail
   go_meet
   exact⟨V,by have:=HR3.out;rw[<- aZ.out]at this;exact kH this,kH (KX.refl _ _ _)⟩
  | true=>
   have hbz:E.base<=W3.heap.size:=aac dh.out gq.out.size;have hall:=oz E.base s p ms W3.drew (aW.below ((Below.refl _ W3).drew) jE.out) (by have:=dC.out.uP;have:=aZ.out;omega);have iV:=kH hall
   have gz:∀w':World,aA (fun g=>g=E.vi) W3 w'->w'.cell? ⟨E.rp,5,none⟩=some (.map (some E.vi))/\w'.cell? ⟨w.heap.size,0,none⟩=some (.pointer (some ⟨E.rp,0,none⟩)):=fun w' hw=>by
    have nm:∀{g:Nat}{t:TypeId}{cs:Array Value},ak W3 g t cs->g≠E.vi:=fun hb e=>by
     obtain⟨es,ck,ho⟩:=HR3.out.vi.isMap;subst e;have:W3.heap[_]? =some (Obj.cells _ _ (0,0)):=hb;rw[ho]at this;cases this
    exact⟨(HR3.out.blk.since hw (nm HR3.out.blk)).cell 5,(gW.out.since hw (nm gW.out)).cell 0⟩
   have gm:=kH gz;have hs0:aA (fun g=>g=E.vi) W3 W3.drew:=(aA.refl _ W3).drew
   have eG:(nx:Int) ∉ r.bH.map (·.1):=fun hm=>by
    obtain⟨y,hy,he⟩:=List.mem_map.1 hm;have:=dC.out.bH y hy;have:=aZ.out;omega
   have rD:=kH eG;clear hall gz eG;go_wp2_with fail
   go_region_held3 (fun w'=>w'.cell? ⟨E.rp,5,none⟩=some (.map (some E.vi))/\w'.cell? ⟨w.heap.size,0,none⟩=some (.pointer (some ⟨E.rp,0,none⟩))) (exact gm.out _ (by assumption)) ((go_at_call 145;refine iV.out.mono ?_;rintro e5 w5 ⟨v5,rfl,jY,hb5⟩;have hs5:=hs0.below hb5;obtain⟨w6,hrun,dM,ll,qH⟩:=bU (P:=Tryz.prog) (KK:=iN) (t:=72) (kt:=3) (et:=28) Tryz.underlying72 Tryz.underlying3 ((aY.drew HR3.out.vi).uH hb5) (nx:Int) v5;change (Instr.mapUpdate 72 (.map (some E.vi)) (Value.int .i64 (nx:Int)) v5).run Tryz.prog w5=_ at hrun;have hs6:aA (fun g=>g=E.vi) w5 w6:=(aA.refl (fun g=>g=E.vi) w5).grown ll (fun k hk=>by cases hk;exact .inl rfl);have hs7:=hs5.trans hs6))
   have hlen:(ah (aj s)).length=(aj s).length:=List.length_mergeSort _;have fV:Below W3.heap.size W3 w5:=((Below.refl _ W3).drew).trans hb5;have gG:=HR3.out.oh hbz fV (nx:Int) (ah (aj s)) v5 (by rw[hlen];exact jY) rD.out (fun g=>g=E.vi) rfl dM hs6;have gK:=kH gG;clear gG hs5 hs6 hs7 qH dM fV hb5 jY hs0 hrun ll;go_wp2_with fail
   go_meet
   exact⟨_,by have:=gK.out.1;rw[<- aZ.out]at this;exact kH this,kH gK.out.2⟩
 case rest=>
  obtain⟨Vx,ig,fQ⟩:=hcut;have iy:Hid (KX E (fun g=>g=E.vi) w wc):=kH ((gq.out.mono (fun _ hf=>hf.elim)).trans fQ.out (fun g hg=>.inl hg));have HV:Hid (VW E G B ⟨kids,20,x,a,e,A,nk,c,w.heap.size+1,w.heap.size⟩ w (fun g=>g=E.vi\/ms.head? =some g) (aB r i (ah (aj s))) Vx s p ms wc):=kH ⟨ig.out,aW.kx fQ.out HR3.out.dN jE.out (fun m hm e=>(hsep.apart m hm).2.2.2 e),HR3.out.kQ fQ.out lG.out,HR3.out.nU fQ.out gW.out,iy.out.mono (fun _ h=>.inl h),aK.below ((KX.low iy.out dh.out).mono hB) (aab _) _ _ _ HK.out,aac dh.out (KX.low iy.out dh.out).size,hB⟩;have hlk:=fun q=>fq (wc.drewN q) E.g G.globals (aY.drewN ig.out.gl q) x
  obtain⟨gi,hgi⟩:∃q,(bG G.globals x).getD 0=q:=⟨_,rfl⟩
  obtain⟨gb,hgb⟩:∃q,(bG G.globals x).isSome=q:=⟨_,rfl⟩
  rw[hgi,hgb]at hlk;obtain⟨⟨q0,lp⟩,⟨n0,n1,n2,n3,n4,ln⟩,⟨c0,c1,c2,c8,lr⟩⟩:=HV.out.cells;have uL:=kH hgi;have zq:=kH hgb;have hD:(aB r i (ah (aj s))).ds.length<=1000000:=by show r.ds.length<=_;have:=dC.out.ds;have:=aZ.out;omega
  have hP:(aB r i (ah (aj s))).aR.length<=1000000:=by show r.aR.length<=_;have:=dC.out.aR;have:=aZ.out;omega
  have hU:nx<(aB r i (ah (aj s))).uses.length:=by show nx<r.uses.length;have h1:=dC.out.room;have h2:=aZ.out;rw[ai]at h1;omega
  have HD:=kH hD;have qK:=kH hP;have HU:=kH hU;have kJ:∀u:RS,u.next=r.next+1->u.next<=r.next+1+ag ((aa.node 20 x a e kids).kids.take 0):=fun u hu=>by rw[hu];exact Nat.le_add_right _ _
  have rR:=kH kJ;clear hgi hgb c5 p0 qF qX kJ hD hP hU c8;obtain⟨tq,qY⟩:∃tq,eO s x=tq:=⟨_,rfl⟩
  have HTQ:=kH qY
  have kG:af G i kids 0 nk s (gB (aB r i (ah (aj s))) nx (aa.node 20 x a e kids) tq)=Q:=by
   rw[<- HQ.out,gX.out,<- qY,<- aZ.out];rfl
  have oW:=kH kG;have ql:Hid (rz r (gB (aB r i (ah (aj s))) nx (aa.node 20 x a e kids) tq)):=kH (by have:=dW.CS r i (ah (aj s)) (aa.node 20 x a e kids) tq;rw[aZ.out]at this;exact this);have jv:Hid ((gB (aB r i (ah (aj s))) nx (aa.node 20 x a e kids) tq).next=r.next+1):=kH (by cases tq<;>rfl);clear kG;have hfind:=fun q=>I6 E.base x (wc.drewN q) s p ms ((HV.out.drewN q).S)
  have mZ:=fun q=>(HV.out.drewN q).NT (aa.node 20 x a e kids) ⟨rfl,rfl,rfl,rfl,rfl⟩ gX.out qK.out nx HU.out tq (tq.getD 0) (fun k hk=>by rw[hk];rfl)
  rw[qY]at hfind;have HF:=kH hfind;have zl:=kH mZ;clear hfind mZ qY;go_wp2_with fail
  go_quiet (fail)
  go_wp2_with fail
  refine(HF.out _).mono ?_;rintro e7 w7 ⟨rfl,hw7⟩;subst hw7;go_wp2_with fail
  refine(zl.out _).mono ?_;rintro e8 w8 ⟨rfl,V8,h8⟩;obtain⟨⟨q8,Ac⟩,⟨-,-,-,-,n8,GD⟩,-⟩:=h8.cells;have hcall:=h8.kids fO.out i 0 nk nk (by omega) gX.out (by show 0+nk<=nk;omega) HCAP.out lS.out (dC.out.kids (t:=(aa.node 20 x a e kids)) ql.out (Nat.add_le_add_left ql.out.next _) (rR.out _ jv.out)) hsep (fun g hg=>.inl hg);rw[oW.out]at hcall;have HC:=kH hcall;clear hcall h8;go_wp2_with fail
  refine HC.out.mono ?_;rintro e10 bJ ⟨rfl,-,yH,h10⟩;have HE:Hid (∃V',bf E G Q.1 V' bJ/\aW bJ E.base p Q.2 ms/\KX E (fun g=>g=E.vi\/ms.head? =some g) w bJ):=kH h10.end_;clear h10 HC q8 n8;go_wp2_with fail
  go_end0
  exact⟨rfl,HE.out⟩
theorem Tt(E:RC)(G:bD)(B:Nat)(hB:B<=E.base)(x:ByteArray)(a e:Int)(kids:List aa)(hih:∀k∈kids,gQ E G B k):gQ E G B (.node 27 x a e kids):=by
 intro i s p ms r V w A c h hs hsep hk hcap hbase hv hrb;obtain⟨nk,hnk⟩:∃q,kids.length=q:=⟨_,rfl⟩
 have hvk:mq s.isEmpty kids=true:=by
  rw[qx,if_neg (by decide),if_neg (by decide),if_neg (by decide)]at hv;exact hv
 have hq:aL G i (aa.node 27 x a e kids) s r=af G i kids 0 kids.length s (ik G s r (aB r i (ah (aj s))) (aa.node 27 x a e kids)):=by
  rw[di];repeat (rw[if_neg (by decide)])
 rw[hq];obtain⟨Q,hQ⟩:∃Q,af G i kids 0 kids.length s (ik G s r (aB r i (ah (aj s))) (aa.node 27 x a e kids))=Q:=⟨_,rfl⟩
 rw[hQ];have HQ:=kH hQ;clear hq hQ;unfold bB;have aU:(aa.node 27 x a e kids).kind=27/\(aa.node 27 x a e kids).text=x/\(aa.node 27 x a e kids).at_=a/\(aa.node 27 x a e kids).end_=e/\(aa.node 27 x a e kids).kids=kids:=⟨rfl,rfl,rfl,rfl,rfl⟩
 rw[aU.1,aU.2.1,aU.2.2.1,aU.2.2.2.1,aU.2.2.2.2,hnk];rw[aU.2.2.2.2]at hk hcap;rw[hnk]at hcap;obtain⟨nx,hnx⟩:∃q,r.next=q:=⟨_,rfl⟩
 have hnb:nx<=1000000:=by have:=hrb.room;have:=hrb.most;omega
 have yT:nk<=1000000:=by have h1:=hrb.room;have h2:=hrb.most;have h3:=dU kids;rw[ai]at h1;omega
 have rq:w.cell? ⟨E.rp,7,none⟩=some (.int .i64 (nx:Int)):=by rw[<- hnx];exact h.blk.cell 7
 have hrw:=h.blk.lt;have hwn:IntKind.i64.wrap ((nx:Int)+1)=(nx:Int)+1:=IntWalk.i64_in _ (by omega);have hfx:=h.blk.frozen 7;have H:=kH h;have HS:=kH hs;have HK:=kH hk;have dC:=kH hrb;have aZ:=kH hnx;have gX:=kH hnk;have lS:=kH hvk;have fO:=kH hih;have HCAP:=kH hcap;have dh:=kH hbase;clear h hs hk hrb hnx hnk hvk hih hv aU hcap hbase;go_enter Tryz.func79,Tryz.ntmps79
 go_upto_if 32 with fail
 generalize hW3:(((w.setCell ⟨E.rp,7,none⟩ (.int .i64 ((nx:Int)+1))).alloc (.cells #[.pointer (some ⟨E.rp,0,none⟩)] 68)).alloc (.cells #[.int .i64 27,.string x,.int .i64 a,.int .i64 e,.slice A nk c] 24))=W3
 obtain⟨hr3,hk3⟩:=H.out.og (nx+1) (fun _=>False)
 have hbW:Below w.heap.size (w.setCell ⟨E.rp,7,none⟩ (.int .i64 ((nx:Int)+1))) W3:=by
  rw[<- hW3];have h1:=ae (w.setCell ⟨E.rp,7,none⟩ (.int .i64 ((nx:Int)+1))) (.cells #[.pointer (some ⟨E.rp,0,none⟩)] 68);have h2:=ae ((w.setCell ⟨E.rp,7,none⟩ (.int .i64 ((nx:Int)+1))).alloc (.cells #[.pointer (some ⟨E.rp,0,none⟩)] 68)) (.cells #[.int .i64 27,.string x,.int .i64 a,.int .i64 e,.slice A nk c] 24);have h3:=h1.trans (h2.mono (by simp));simpa using h3
 have jc:W3.heap.size=w.heap.size+2:=by rw[<- hW3];simp
 have jQ:ak W3 (w.heap.size+1) 24 #[.int .i64 27,.string x,.int .i64 a,.int .i64 e,.slice A nk c]:=by
  have:=ak.new ((w.setCell ⟨E.rp,7,none⟩ (.int .i64 ((nx:Int)+1))).alloc (.cells #[.pointer (some ⟨E.rp,0,none⟩)] 68)) 24 #[.int .i64 27,.string x,.int .i64 a,.int .i64 e,.slice A nk c];rw[hW3]at this;simpa using this
 have hp3:ak W3 w.heap.size 68 #[.pointer (some ⟨E.rp,0,none⟩)]:=by
  have:=(ak.new (w.setCell ⟨E.rp,7,none⟩ (.int .i64 ((nx:Int)+1))) 68 #[.pointer (some ⟨E.rp,0,none⟩)]).alloc (.cells #[.int .i64 27,.string x,.int .i64 a,.int .i64 e,.slice A nk c] 24);rw[hW3]at this;simpa using this
 have HR3:Hid (bf E G { r with next:=nx+1 } V W3):=kH (hr3.below (by simpa using hbW));have gq:Hid (KX E (fun _=>False) w W3):=kH (hk3.trans (KX.of_below (M:=fun _=>False) (by simpa using hbW)) (fun g hg=>.inl hg));have jE:Hid (aW W3 E.base p s ms):=kH (aW.kx gq.out H.out.dN HS.out (fun _ _ h=>h));have lG:=kH jQ;have gW:=kH hp3;have xP:=kH jc;have c5:W3.cell? ⟨E.rp,5,none⟩=some (.map (some E.vi)):=HR3.out.blk.cell 5;have p0:=hp3.cell 0;have qF:=HR3.out.blk.lt;have qX:=hp3.lt;clear hW3 hr3 hk3 hbW jQ hp3 jc rq hfx;go_cut [] (fun wx=> ∃Vx,Hid (bf E G (aB r i (ah (aj s))) Vx wx)/\Hid (KX E (fun g=>g=E.vi) W3 wx))
 case first=>
  cases i with
  | false=>
   go_wp2_with fail
   go_meet
   exact⟨V,by have:=HR3.out;rw[<- aZ.out]at this;exact kH this,kH (KX.refl _ _ _)⟩
  | true=>
   have hbz:E.base<=W3.heap.size:=aac dh.out gq.out.size;have hall:=oz E.base s p ms W3.drew (aW.below ((Below.refl _ W3).drew) jE.out) (by have:=dC.out.uP;have:=aZ.out;omega);have iV:=kH hall
   have gz:∀w':World,aA (fun g=>g=E.vi) W3 w'->w'.cell? ⟨E.rp,5,none⟩=some (.map (some E.vi))/\w'.cell? ⟨w.heap.size,0,none⟩=some (.pointer (some ⟨E.rp,0,none⟩)):=fun w' hw=>by
    have nm:∀{g:Nat}{t:TypeId}{cs:Array Value},ak W3 g t cs->g≠E.vi:=fun hb e=>by
     obtain⟨es,ck,ho⟩:=HR3.out.vi.isMap;subst e;have:W3.heap[_]? =some (Obj.cells _ _ (0,0)):=hb;rw[ho]at this;cases this
    exact⟨(HR3.out.blk.since hw (nm HR3.out.blk)).cell 5,(gW.out.since hw (nm gW.out)).cell 0⟩
   have gm:=kH gz;have hs0:aA (fun g=>g=E.vi) W3 W3.drew:=(aA.refl _ W3).drew
   have eG:(nx:Int) ∉ r.bH.map (·.1):=fun hm=>by
    obtain⟨y,hy,he⟩:=List.mem_map.1 hm;have:=dC.out.bH y hy;have:=aZ.out;omega
   have rD:=kH eG;clear hall gz eG;go_wp2_with fail
   go_region_held3 (fun w'=>w'.cell? ⟨E.rp,5,none⟩=some (.map (some E.vi))/\w'.cell? ⟨w.heap.size,0,none⟩=some (.pointer (some ⟨E.rp,0,none⟩))) (exact gm.out _ (by assumption)) ((go_at_call 145;refine iV.out.mono ?_;rintro e5 w5 ⟨v5,rfl,jY,hb5⟩;have hs5:=hs0.below hb5;obtain⟨w6,hrun,dM,ll,qH⟩:=bU (P:=Tryz.prog) (KK:=iN) (t:=72) (kt:=3) (et:=28) Tryz.underlying72 Tryz.underlying3 ((aY.drew HR3.out.vi).uH hb5) (nx:Int) v5;change (Instr.mapUpdate 72 (.map (some E.vi)) (Value.int .i64 (nx:Int)) v5).run Tryz.prog w5=_ at hrun;have hs6:aA (fun g=>g=E.vi) w5 w6:=(aA.refl (fun g=>g=E.vi) w5).grown ll (fun k hk=>by cases hk;exact .inl rfl);have hs7:=hs5.trans hs6))
   have hlen:(ah (aj s)).length=(aj s).length:=List.length_mergeSort _;have fV:Below W3.heap.size W3 w5:=((Below.refl _ W3).drew).trans hb5;have gG:=HR3.out.oh hbz fV (nx:Int) (ah (aj s)) v5 (by rw[hlen];exact jY) rD.out (fun g=>g=E.vi) rfl dM hs6;have gK:=kH gG;clear gG hs5 hs6 hs7 qH dM fV hb5 jY hs0 hrun ll;go_wp2_with fail
   go_meet
   exact⟨_,by have:=gK.out.1;rw[<- aZ.out]at this;exact kH this,kH gK.out.2⟩
 case rest=>
  obtain⟨Vx,ig,fQ⟩:=hcut;have iy:Hid (KX E (fun g=>g=E.vi) w wc):=kH ((gq.out.mono (fun _ hf=>hf.elim)).trans fQ.out (fun g hg=>.inl hg));have HV:Hid (VW E G B ⟨kids,27,x,a,e,A,nk,c,w.heap.size+1,w.heap.size⟩ w (fun g=>g=E.vi\/ms.head? =some g) (aB r i (ah (aj s))) Vx s p ms wc):=kH ⟨ig.out,aW.kx fQ.out HR3.out.dN jE.out (fun m hm e=>(hsep.apart m hm).2.2.2 e),HR3.out.kQ fQ.out lG.out,HR3.out.nU fQ.out gW.out,iy.out.mono (fun _ h=>.inl h),aK.below ((KX.low iy.out dh.out).mono hB) (aab _) _ _ _ HK.out,aac dh.out (KX.low iy.out dh.out).size,hB⟩;have hlk:=fun q=>fq (wc.drewN q) E.g G.globals (aY.drewN ig.out.gl q) x
  obtain⟨gi,hgi⟩:∃q,(bG G.globals x).getD 0=q:=⟨_,rfl⟩
  obtain⟨gb,hgb⟩:∃q,(bG G.globals x).isSome=q:=⟨_,rfl⟩
  rw[hgi,hgb]at hlk;obtain⟨⟨q0,lp⟩,⟨n0,n1,n2,n3,n4,ln⟩,⟨c0,c1,c2,c8,lr⟩⟩:=HV.out.cells;have uL:=kH hgi;have zq:=kH hgb;have hD:(aB r i (ah (aj s))).ds.length<=1000000:=by show r.ds.length<=_;have:=dC.out.ds;have:=aZ.out;omega
  have hP:(aB r i (ah (aj s))).aR.length<=1000000:=by show r.aR.length<=_;have:=dC.out.aR;have:=aZ.out;omega
  have hU:nx<(aB r i (ah (aj s))).uses.length:=by show nx<r.uses.length;have h1:=dC.out.room;have h2:=aZ.out;rw[ai]at h1;omega
  have HD:=kH hD;have qK:=kH hP;have HU:=kH hU;have kJ:∀u:RS,u.next=r.next+1->u.next<=r.next+1+ag ((aa.node 27 x a e kids).kids.take 0):=fun u hu=>by rw[hu];exact Nat.le_add_right _ _
  have rR:=kH kJ;clear hgi hgb c5 p0 qF qX kJ hD hP hU c8;obtain⟨tq,qY⟩:∃tq,bY G.globals x=tq:=⟨_,rfl⟩
  have HTQ:=kH qY
  have kG:af G i kids 0 nk s (gB (aB r i (ah (aj s))) nx (aa.node 27 x a e kids) tq)=Q:=by
   rw[<- HQ.out,gX.out,<- qY,<- aZ.out];rfl
  have oW:=kH kG;have ql:Hid (rz r (gB (aB r i (ah (aj s))) nx (aa.node 27 x a e kids) tq)):=kH (by have:=dW.CS r i (ah (aj s)) (aa.node 27 x a e kids) tq;rw[aZ.out]at this;exact this);have jv:Hid ((gB (aB r i (ah (aj s))) nx (aa.node 27 x a e kids) tq).next=r.next+1):=kH (by cases tq<;>rfl);clear kG;have mZ:=fun q=>(HV.out.drewN q).NT (aa.node 27 x a e kids) ⟨rfl,rfl,rfl,rfl,rfl⟩ gX.out qK.out nx HU.out tq (tq.getD 0) (fun k hk=>by rw[hk];rfl)
  have e1:tq.getD 0=gi:=by rw[<- uL.out,<- qY]
  have e2:tq.isSome=gb:=by rw[<- zq.out,<- qY]
  rw[e1,e2]at mZ;have zl:=kH mZ;clear mZ qY e1 e2;go_wp2_with fail
  go_quiet (fail)
  go_wp2_with fail
  refine(zl.out _).mono ?_;rintro e8 w8 ⟨rfl,V8,h8⟩;obtain⟨⟨q8,Ac⟩,⟨-,-,-,-,n8,GD⟩,-⟩:=h8.cells;have hcall:=h8.kids fO.out i 0 nk nk (by omega) gX.out (by show 0+nk<=nk;omega) HCAP.out lS.out (dC.out.kids (t:=(aa.node 27 x a e kids)) ql.out (Nat.add_le_add_left ql.out.next _) (rR.out _ jv.out)) hsep (fun g hg=>.inl hg);rw[oW.out]at hcall;have HC:=kH hcall;clear hcall h8;go_wp2_with fail
  refine HC.out.mono ?_;rintro e10 bJ ⟨rfl,-,yH,h10⟩;have HE:Hid (∃V',bf E G Q.1 V' bJ/\aW bJ E.base p Q.2 ms/\KX E (fun g=>g=E.vi\/ms.head? =some g) w bJ):=kH h10.end_;clear h10 HC q8 n8;go_wp2_with fail
  go_end0
  exact⟨rfl,HE.out⟩
theorem NR(E:RC)(G:bD)(B:Nat)(hB:B<=E.base)(x:ByteArray)(a e:Int)(kids:List aa)(hih:∀k∈kids,gQ E G B k):gQ E G B (.node 22 x a e kids):=by
 intro i s p ms r V w A c h hs hsep hk hcap hbase hv hrb;obtain⟨nk,hnk⟩:∃q,kids.length=q:=⟨_,rfl⟩
 have hvk:mq s.isEmpty kids=true:=by
  rw[qx,if_neg (by decide),if_neg (by decide),if_neg (by decide)]at hv;exact hv
 have hq:aL G i (aa.node 22 x a e kids) s r=af G i kids 0 kids.length s (ik G s r (aB r i (ah (aj s))) (aa.node 22 x a e kids)):=by
  rw[di];repeat (rw[if_neg (by decide)])
 rw[hq];obtain⟨Q,hQ⟩:∃Q,af G i kids 0 kids.length s (ik G s r (aB r i (ah (aj s))) (aa.node 22 x a e kids))=Q:=⟨_,rfl⟩
 rw[hQ];have HQ:=kH hQ;clear hq hQ;unfold bB;have aU:(aa.node 22 x a e kids).kind=22/\(aa.node 22 x a e kids).text=x/\(aa.node 22 x a e kids).at_=a/\(aa.node 22 x a e kids).end_=e/\(aa.node 22 x a e kids).kids=kids:=⟨rfl,rfl,rfl,rfl,rfl⟩
 rw[aU.1,aU.2.1,aU.2.2.1,aU.2.2.2.1,aU.2.2.2.2,hnk];rw[aU.2.2.2.2]at hk hcap;rw[hnk]at hcap;obtain⟨nx,hnx⟩:∃q,r.next=q:=⟨_,rfl⟩
 have hnb:nx<=1000000:=by have:=hrb.room;have:=hrb.most;omega
 have yT:nk<=1000000:=by have h1:=hrb.room;have h2:=hrb.most;have h3:=dU kids;rw[ai]at h1;omega
 have rq:w.cell? ⟨E.rp,7,none⟩=some (.int .i64 (nx:Int)):=by rw[<- hnx];exact h.blk.cell 7
 have hrw:=h.blk.lt;have hwn:IntKind.i64.wrap ((nx:Int)+1)=(nx:Int)+1:=IntWalk.i64_in _ (by omega);have hfx:=h.blk.frozen 7;have H:=kH h;have HS:=kH hs;have HK:=kH hk;have dC:=kH hrb;have aZ:=kH hnx;have gX:=kH hnk;have lS:=kH hvk;have fO:=kH hih;have HCAP:=kH hcap;have dh:=kH hbase;clear h hs hk hrb hnx hnk hvk hih hv aU hcap hbase;go_enter Tryz.func79,Tryz.ntmps79
 go_upto_if 32 with fail
 generalize hW3:(((w.setCell ⟨E.rp,7,none⟩ (.int .i64 ((nx:Int)+1))).alloc (.cells #[.pointer (some ⟨E.rp,0,none⟩)] 68)).alloc (.cells #[.int .i64 22,.string x,.int .i64 a,.int .i64 e,.slice A nk c] 24))=W3
 obtain⟨hr3,hk3⟩:=H.out.og (nx+1) (fun _=>False)
 have hbW:Below w.heap.size (w.setCell ⟨E.rp,7,none⟩ (.int .i64 ((nx:Int)+1))) W3:=by
  rw[<- hW3];have h1:=ae (w.setCell ⟨E.rp,7,none⟩ (.int .i64 ((nx:Int)+1))) (.cells #[.pointer (some ⟨E.rp,0,none⟩)] 68);have h2:=ae ((w.setCell ⟨E.rp,7,none⟩ (.int .i64 ((nx:Int)+1))).alloc (.cells #[.pointer (some ⟨E.rp,0,none⟩)] 68)) (.cells #[.int .i64 22,.string x,.int .i64 a,.int .i64 e,.slice A nk c] 24);have h3:=h1.trans (h2.mono (by simp));simpa using h3
 have jc:W3.heap.size=w.heap.size+2:=by rw[<- hW3];simp
 have jQ:ak W3 (w.heap.size+1) 24 #[.int .i64 22,.string x,.int .i64 a,.int .i64 e,.slice A nk c]:=by
  have:=ak.new ((w.setCell ⟨E.rp,7,none⟩ (.int .i64 ((nx:Int)+1))).alloc (.cells #[.pointer (some ⟨E.rp,0,none⟩)] 68)) 24 #[.int .i64 22,.string x,.int .i64 a,.int .i64 e,.slice A nk c];rw[hW3]at this;simpa using this
 have hp3:ak W3 w.heap.size 68 #[.pointer (some ⟨E.rp,0,none⟩)]:=by
  have:=(ak.new (w.setCell ⟨E.rp,7,none⟩ (.int .i64 ((nx:Int)+1))) 68 #[.pointer (some ⟨E.rp,0,none⟩)]).alloc (.cells #[.int .i64 22,.string x,.int .i64 a,.int .i64 e,.slice A nk c] 24);rw[hW3]at this;simpa using this
 have HR3:Hid (bf E G { r with next:=nx+1 } V W3):=kH (hr3.below (by simpa using hbW));have gq:Hid (KX E (fun _=>False) w W3):=kH (hk3.trans (KX.of_below (M:=fun _=>False) (by simpa using hbW)) (fun g hg=>.inl hg));have jE:Hid (aW W3 E.base p s ms):=kH (aW.kx gq.out H.out.dN HS.out (fun _ _ h=>h));have lG:=kH jQ;have gW:=kH hp3;have xP:=kH jc;have c5:W3.cell? ⟨E.rp,5,none⟩=some (.map (some E.vi)):=HR3.out.blk.cell 5;have p0:=hp3.cell 0;have qF:=HR3.out.blk.lt;have qX:=hp3.lt;clear hW3 hr3 hk3 hbW jQ hp3 jc rq hfx;go_cut [] (fun wx=> ∃Vx,Hid (bf E G (aB r i (ah (aj s))) Vx wx)/\Hid (KX E (fun g=>g=E.vi) W3 wx))
 case first=>
  cases i with
  | false=>
   go_wp2_with fail
   go_meet
   exact⟨V,by have:=HR3.out;rw[<- aZ.out]at this;exact kH this,kH (KX.refl _ _ _)⟩
  | true=>
   have hbz:E.base<=W3.heap.size:=aac dh.out gq.out.size;have hall:=oz E.base s p ms W3.drew (aW.below ((Below.refl _ W3).drew) jE.out) (by have:=dC.out.uP;have:=aZ.out;omega);have iV:=kH hall
   have gz:∀w':World,aA (fun g=>g=E.vi) W3 w'->w'.cell? ⟨E.rp,5,none⟩=some (.map (some E.vi))/\w'.cell? ⟨w.heap.size,0,none⟩=some (.pointer (some ⟨E.rp,0,none⟩)):=fun w' hw=>by
    have nm:∀{g:Nat}{t:TypeId}{cs:Array Value},ak W3 g t cs->g≠E.vi:=fun hb e=>by
     obtain⟨es,ck,ho⟩:=HR3.out.vi.isMap;subst e;have:W3.heap[_]? =some (Obj.cells _ _ (0,0)):=hb;rw[ho]at this;cases this
    exact⟨(HR3.out.blk.since hw (nm HR3.out.blk)).cell 5,(gW.out.since hw (nm gW.out)).cell 0⟩
   have gm:=kH gz;have hs0:aA (fun g=>g=E.vi) W3 W3.drew:=(aA.refl _ W3).drew
   have eG:(nx:Int) ∉ r.bH.map (·.1):=fun hm=>by
    obtain⟨y,hy,he⟩:=List.mem_map.1 hm;have:=dC.out.bH y hy;have:=aZ.out;omega
   have rD:=kH eG;clear hall gz eG;go_wp2_with fail
   go_region_held3 (fun w'=>w'.cell? ⟨E.rp,5,none⟩=some (.map (some E.vi))/\w'.cell? ⟨w.heap.size,0,none⟩=some (.pointer (some ⟨E.rp,0,none⟩))) (exact gm.out _ (by assumption)) ((go_at_call 145;refine iV.out.mono ?_;rintro e5 w5 ⟨v5,rfl,jY,hb5⟩;have hs5:=hs0.below hb5;obtain⟨w6,hrun,dM,ll,qH⟩:=bU (P:=Tryz.prog) (KK:=iN) (t:=72) (kt:=3) (et:=28) Tryz.underlying72 Tryz.underlying3 ((aY.drew HR3.out.vi).uH hb5) (nx:Int) v5;change (Instr.mapUpdate 72 (.map (some E.vi)) (Value.int .i64 (nx:Int)) v5).run Tryz.prog w5=_ at hrun;have hs6:aA (fun g=>g=E.vi) w5 w6:=(aA.refl (fun g=>g=E.vi) w5).grown ll (fun k hk=>by cases hk;exact .inl rfl);have hs7:=hs5.trans hs6))
   have hlen:(ah (aj s)).length=(aj s).length:=List.length_mergeSort _;have fV:Below W3.heap.size W3 w5:=((Below.refl _ W3).drew).trans hb5;have gG:=HR3.out.oh hbz fV (nx:Int) (ah (aj s)) v5 (by rw[hlen];exact jY) rD.out (fun g=>g=E.vi) rfl dM hs6;have gK:=kH gG;clear gG hs5 hs6 hs7 qH dM fV hb5 jY hs0 hrun ll;go_wp2_with fail
   go_meet
   exact⟨_,by have:=gK.out.1;rw[<- aZ.out]at this;exact kH this,kH gK.out.2⟩
 case rest=>
  obtain⟨Vx,ig,fQ⟩:=hcut;have iy:Hid (KX E (fun g=>g=E.vi) w wc):=kH ((gq.out.mono (fun _ hf=>hf.elim)).trans fQ.out (fun g hg=>.inl hg));have HV:Hid (VW E G B ⟨kids,22,x,a,e,A,nk,c,w.heap.size+1,w.heap.size⟩ w (fun g=>g=E.vi\/ms.head? =some g) (aB r i (ah (aj s))) Vx s p ms wc):=kH ⟨ig.out,aW.kx fQ.out HR3.out.dN jE.out (fun m hm e=>(hsep.apart m hm).2.2.2 e),HR3.out.kQ fQ.out lG.out,HR3.out.nU fQ.out gW.out,iy.out.mono (fun _ h=>.inl h),aK.below ((KX.low iy.out dh.out).mono hB) (aab _) _ _ _ HK.out,aac dh.out (KX.low iy.out dh.out).size,hB⟩;have hlk:=fun q=>fq (wc.drewN q) E.g G.globals (aY.drewN ig.out.gl q) x
  obtain⟨gi,hgi⟩:∃q,(bG G.globals x).getD 0=q:=⟨_,rfl⟩
  obtain⟨gb,hgb⟩:∃q,(bG G.globals x).isSome=q:=⟨_,rfl⟩
  rw[hgi,hgb]at hlk;obtain⟨⟨q0,lp⟩,⟨n0,n1,n2,n3,n4,ln⟩,⟨c0,c1,c2,c8,lr⟩⟩:=HV.out.cells;have uL:=kH hgi;have zq:=kH hgb;have hD:(aB r i (ah (aj s))).ds.length<=1000000:=by show r.ds.length<=_;have:=dC.out.ds;have:=aZ.out;omega
  have hP:(aB r i (ah (aj s))).aR.length<=1000000:=by show r.aR.length<=_;have:=dC.out.aR;have:=aZ.out;omega
  have hU:nx<(aB r i (ah (aj s))).uses.length:=by show nx<r.uses.length;have h1:=dC.out.room;have h2:=aZ.out;rw[ai]at h1;omega
  have HD:=kH hD;have qK:=kH hP;have HU:=kH hU;have kJ:∀u:RS,u.next=r.next+1->u.next<=r.next+1+ag ((aa.node 22 x a e kids).kids.take 0):=fun u hu=>by rw[hu];exact Nat.le_add_right _ _
  have rR:=kH kJ;clear hgi hgb c5 p0 qF qX kJ hD hP hU c8;obtain⟨tq,qY⟩:∃tq,bY G.fields x=tq:=⟨_,rfl⟩
  have HTQ:=kH qY
  have kG:af G i kids 0 nk s (gB (aB r i (ah (aj s))) nx (aa.node 22 x a e kids) tq)=Q:=by
   rw[<- HQ.out,gX.out,<- qY,<- aZ.out];rfl
  have oW:=kH kG;have ql:Hid (rz r (gB (aB r i (ah (aj s))) nx (aa.node 22 x a e kids) tq)):=kH (by have:=dW.CS r i (ah (aj s)) (aa.node 22 x a e kids) tq;rw[aZ.out]at this;exact this);have jv:Hid ((gB (aB r i (ah (aj s))) nx (aa.node 22 x a e kids) tq).next=r.next+1):=kH (by cases tq<;>rfl);clear kG;have mZ:=fun q=>(HV.out.drewN q).NT (aa.node 22 x a e kids) ⟨rfl,rfl,rfl,rfl,rfl⟩ gX.out qK.out nx HU.out tq (tq.getD 0) (fun k hk=>by rw[hk];rfl)
  have hlf:=fun q q'=>fq ((wc.drewN q).drewN q') E.f G.fields (aY.drewN (aY.drewN ig.out.fl q) q') x
  have hlg:=fun q=>fq (wc.drewN q) E.f G.fields (aY.drewN ig.out.fl q) x
  rw[show bG G.fields x=tq from qY]at hlf hlg;obtain⟨ti,hti⟩:∃q,tq.getD 0=q:=⟨_,rfl⟩
  obtain⟨tb,htb⟩:∃q,tq.isSome=q:=⟨_,rfl⟩
  rw[hti,htb]at hlf hlg mZ;have zl:=kH mZ;clear mZ qY hti htb;go_wp2_with fail
  go_quiet (fail)
  go_wp2_with fail
  go_quiet (fail)
  go_wp2_with fail
  refine(zl.out _).mono ?_;rintro e8 w8 ⟨rfl,V8,h8⟩;obtain⟨⟨q8,Ac⟩,⟨-,-,-,-,n8,GD⟩,-⟩:=h8.cells;have hcall:=h8.kids fO.out i 0 nk nk (by omega) gX.out (by show 0+nk<=nk;omega) HCAP.out lS.out (dC.out.kids (t:=(aa.node 22 x a e kids)) ql.out (Nat.add_le_add_left ql.out.next _) (rR.out _ jv.out)) hsep (fun g hg=>.inl hg);rw[oW.out]at hcall;have HC:=kH hcall;clear hcall h8;go_wp2_with fail
  refine HC.out.mono ?_;rintro e10 bJ ⟨rfl,-,yH,h10⟩;have HE:Hid (∃V',bf E G Q.1 V' bJ/\aW bJ E.base p Q.2 ms/\KX E (fun g=>g=E.vi\/ms.head? =some g) w bJ):=kH h10.end_;clear h10 HC q8 n8;go_wp2_with fail
  go_end0
  exact⟨rfl,HE.out⟩
theorem QY(E:RC)(G:bD)(B:Nat)(hB:B<=E.base)(x:ByteArray)(a e:Int)(kids:List aa)(hih:∀k∈kids,gQ E G B k):gQ E G B (.node 4 x a e kids):=by
 intro i s p ms r V w A c h hs hsep hk hcap hbase hv hrb;obtain⟨nk,hnk⟩:∃q,kids.length=q:=⟨_,rfl⟩
 have hvk:mq s.isEmpty kids=true:=by
  rw[qx,if_neg (by decide),if_neg (by decide),if_neg (by decide)]at hv;exact hv
 have hq:aL G i (aa.node 4 x a e kids) s r=af G i kids 0 kids.length s (bF (aB r i (ah (aj s))) 1 r.next (aa.node 4 x a e kids) (decide ((bY G.fields x).getD 0≠(r.next:Int)))):=by
  rw[di,if_neg (by decide),if_pos rfl]
 rw[hq];obtain⟨Q,hQ⟩:∃Q,af G i kids 0 kids.length s (bF (aB r i (ah (aj s))) 1 r.next (aa.node 4 x a e kids) (decide ((bY G.fields x).getD 0≠(r.next:Int))))=Q:=⟨_,rfl⟩
 rw[hQ];have HQ:=kH hQ;clear hq hQ;unfold bB;have aU:(aa.node 4 x a e kids).kind=4/\(aa.node 4 x a e kids).text=x/\(aa.node 4 x a e kids).at_=a/\(aa.node 4 x a e kids).end_=e/\(aa.node 4 x a e kids).kids=kids:=⟨rfl,rfl,rfl,rfl,rfl⟩
 rw[aU.1,aU.2.1,aU.2.2.1,aU.2.2.2.1,aU.2.2.2.2,hnk];rw[aU.2.2.2.2]at hk hcap;rw[hnk]at hcap;obtain⟨nx,hnx⟩:∃q,r.next=q:=⟨_,rfl⟩
 have hnb:nx<=1000000:=by have:=hrb.room;have:=hrb.most;omega
 have yT:nk<=1000000:=by have h1:=hrb.room;have h2:=hrb.most;have h3:=dU kids;rw[ai]at h1;omega
 have rq:w.cell? ⟨E.rp,7,none⟩=some (.int .i64 (nx:Int)):=by rw[<- hnx];exact h.blk.cell 7
 have hrw:=h.blk.lt;have hwn:IntKind.i64.wrap ((nx:Int)+1)=(nx:Int)+1:=IntWalk.i64_in _ (by omega);have hfx:=h.blk.frozen 7;have H:=kH h;have HS:=kH hs;have HK:=kH hk;have dC:=kH hrb;have aZ:=kH hnx;have gX:=kH hnk;have lS:=kH hvk;have fO:=kH hih;have HCAP:=kH hcap;have dh:=kH hbase;clear h hs hk hrb hnx hnk hvk hih hv aU hcap hbase;go_enter Tryz.func79,Tryz.ntmps79
 go_upto_if 32 with fail
 generalize hW3:(((w.setCell ⟨E.rp,7,none⟩ (.int .i64 ((nx:Int)+1))).alloc (.cells #[.pointer (some ⟨E.rp,0,none⟩)] 68)).alloc (.cells #[.int .i64 4,.string x,.int .i64 a,.int .i64 e,.slice A nk c] 24))=W3
 obtain⟨hr3,hk3⟩:=H.out.og (nx+1) (fun _=>False)
 have hbW:Below w.heap.size (w.setCell ⟨E.rp,7,none⟩ (.int .i64 ((nx:Int)+1))) W3:=by
  rw[<- hW3];have h1:=ae (w.setCell ⟨E.rp,7,none⟩ (.int .i64 ((nx:Int)+1))) (.cells #[.pointer (some ⟨E.rp,0,none⟩)] 68);have h2:=ae ((w.setCell ⟨E.rp,7,none⟩ (.int .i64 ((nx:Int)+1))).alloc (.cells #[.pointer (some ⟨E.rp,0,none⟩)] 68)) (.cells #[.int .i64 4,.string x,.int .i64 a,.int .i64 e,.slice A nk c] 24);have h3:=h1.trans (h2.mono (by simp));simpa using h3
 have jc:W3.heap.size=w.heap.size+2:=by rw[<- hW3];simp
 have jQ:ak W3 (w.heap.size+1) 24 #[.int .i64 4,.string x,.int .i64 a,.int .i64 e,.slice A nk c]:=by
  have:=ak.new ((w.setCell ⟨E.rp,7,none⟩ (.int .i64 ((nx:Int)+1))).alloc (.cells #[.pointer (some ⟨E.rp,0,none⟩)] 68)) 24 #[.int .i64 4,.string x,.int .i64 a,.int .i64 e,.slice A nk c];rw[hW3]at this;simpa using this
 have hp3:ak W3 w.heap.size 68 #[.pointer (some ⟨E.rp,0,none⟩)]:=by
  have:=(ak.new (w.setCell ⟨E.rp,7,none⟩ (.int .i64 ((nx:Int)+1))) 68 #[.pointer (some ⟨E.rp,0,none⟩)]).alloc (.cells #[.int .i64 4,.string x,.int .i64 a,.int .i64 e,.slice A nk c] 24);rw[hW3]at this;simpa using this
 have HR3:Hid (bf E G { r with next:=nx+1 } V W3):=kH (hr3.below (by simpa using hbW));have gq:Hid (KX E (fun _=>False) w W3):=kH (hk3.trans (KX.of_below (M:=fun _=>False) (by simpa using hbW)) (fun g hg=>.inl hg));have jE:Hid (aW W3 E.base p s ms):=kH (aW.kx gq.out H.out.dN HS.out (fun _ _ h=>h));have lG:=kH jQ;have gW:=kH hp3;have xP:=kH jc;have c5:W3.cell? ⟨E.rp,5,none⟩=some (.map (some E.vi)):=HR3.out.blk.cell 5;have p0:=hp3.cell 0;have qF:=HR3.out.blk.lt;have qX:=hp3.lt;clear hW3 hr3 hk3 hbW jQ hp3 jc rq hfx;go_cut [] (fun wx=> ∃Vx,Hid (bf E G (aB r i (ah (aj s))) Vx wx)/\Hid (KX E (fun g=>g=E.vi) W3 wx))
 case first=>
  cases i with
  | false=>
   go_wp2_with fail
   go_meet
   exact⟨V,by have:=HR3.out;rw[<- aZ.out]at this;exact kH this,kH (KX.refl _ _ _)⟩
  | true=>
   have hbz:E.base<=W3.heap.size:=aac dh.out gq.out.size;have hall:=oz E.base s p ms W3.drew (aW.below ((Below.refl _ W3).drew) jE.out) (by have:=dC.out.uP;have:=aZ.out;omega);have iV:=kH hall
   have gz:∀w':World,aA (fun g=>g=E.vi) W3 w'->w'.cell? ⟨E.rp,5,none⟩=some (.map (some E.vi))/\w'.cell? ⟨w.heap.size,0,none⟩=some (.pointer (some ⟨E.rp,0,none⟩)):=fun w' hw=>by
    have nm:∀{g:Nat}{t:TypeId}{cs:Array Value},ak W3 g t cs->g≠E.vi:=fun hb e=>by
     obtain⟨es,ck,ho⟩:=HR3.out.vi.isMap;subst e;have:W3.heap[_]? =some (Obj.cells _ _ (0,0)):=hb;rw[ho]at this;cases this
    exact⟨(HR3.out.blk.since hw (nm HR3.out.blk)).cell 5,(gW.out.since hw (nm gW.out)).cell 0⟩
   have gm:=kH gz;have hs0:aA (fun g=>g=E.vi) W3 W3.drew:=(aA.refl _ W3).drew
   have eG:(nx:Int) ∉ r.bH.map (·.1):=fun hm=>by
    obtain⟨y,hy,he⟩:=List.mem_map.1 hm;have:=dC.out.bH y hy;have:=aZ.out;omega
   have rD:=kH eG;clear hall gz eG;go_wp2_with fail
   go_region_held3 (fun w'=>w'.cell? ⟨E.rp,5,none⟩=some (.map (some E.vi))/\w'.cell? ⟨w.heap.size,0,none⟩=some (.pointer (some ⟨E.rp,0,none⟩))) (exact gm.out _ (by assumption)) ((go_at_call 145;refine iV.out.mono ?_;rintro e5 w5 ⟨v5,rfl,jY,hb5⟩;have hs5:=hs0.below hb5;obtain⟨w6,hrun,dM,ll,qH⟩:=bU (P:=Tryz.prog) (KK:=iN) (t:=72) (kt:=3) (et:=28) Tryz.underlying72 Tryz.underlying3 ((aY.drew HR3.out.vi).uH hb5) (nx:Int) v5;change (Instr.mapUpdate 72 (.map (some E.vi)) (Value.int .i64 (nx:Int)) v5).run Tryz.prog w5=_ at hrun;have hs6:aA (fun g=>g=E.vi) w5 w6:=(aA.refl (fun g=>g=E.vi) w5).grown ll (fun k hk=>by cases hk;exact .inl rfl);have hs7:=hs5.trans hs6))
   have hlen:(ah (aj s)).length=(aj s).length:=List.length_mergeSort _;have fV:Below W3.heap.size W3 w5:=((Below.refl _ W3).drew).trans hb5;have gG:=HR3.out.oh hbz fV (nx:Int) (ah (aj s)) v5 (by rw[hlen];exact jY) rD.out (fun g=>g=E.vi) rfl dM hs6;have gK:=kH gG;clear gG hs5 hs6 hs7 qH dM fV hb5 jY hs0 hrun ll;go_wp2_with fail
   go_meet
   exact⟨_,by have:=gK.out.1;rw[<- aZ.out]at this;exact kH this,kH gK.out.2⟩
 case rest=>
  obtain⟨Vx,ig,fQ⟩:=hcut;have iy:Hid (KX E (fun g=>g=E.vi) w wc):=kH ((gq.out.mono (fun _ hf=>hf.elim)).trans fQ.out (fun g hg=>.inl hg));have HV:Hid (VW E G B ⟨kids,4,x,a,e,A,nk,c,w.heap.size+1,w.heap.size⟩ w (fun g=>g=E.vi\/ms.head? =some g) (aB r i (ah (aj s))) Vx s p ms wc):=kH ⟨ig.out,aW.kx fQ.out HR3.out.dN jE.out (fun m hm e=>(hsep.apart m hm).2.2.2 e),HR3.out.kQ fQ.out lG.out,HR3.out.nU fQ.out gW.out,iy.out.mono (fun _ h=>.inl h),aK.below ((KX.low iy.out dh.out).mono hB) (aab _) _ _ _ HK.out,aac dh.out (KX.low iy.out dh.out).size,hB⟩;have hlk:=fun q=>fq (wc.drewN q) E.g G.globals (aY.drewN ig.out.gl q) x
  obtain⟨gi,hgi⟩:∃q,(bG G.globals x).getD 0=q:=⟨_,rfl⟩
  obtain⟨gb,hgb⟩:∃q,(bG G.globals x).isSome=q:=⟨_,rfl⟩
  rw[hgi,hgb]at hlk;obtain⟨⟨q0,lp⟩,⟨n0,n1,n2,n3,n4,ln⟩,⟨c0,c1,c2,c8,lr⟩⟩:=HV.out.cells;have uL:=kH hgi;have zq:=kH hgb;have hD:(aB r i (ah (aj s))).ds.length<=1000000:=by show r.ds.length<=_;have:=dC.out.ds;have:=aZ.out;omega
  have hP:(aB r i (ah (aj s))).aR.length<=1000000:=by show r.aR.length<=_;have:=dC.out.aR;have:=aZ.out;omega
  have hU:nx<(aB r i (ah (aj s))).uses.length:=by show nx<r.uses.length;have h1:=dC.out.room;have h2:=aZ.out;rw[ai]at h1;omega
  have HD:=kH hD;have qK:=kH hP;have HU:=kH hU;have kJ:∀u:RS,u.next=r.next+1->u.next<=r.next+1+ag ((aa.node 4 x a e kids).kids.take 0):=fun u hu=>by rw[hu];exact Nat.le_add_right _ _
  have rR:=kH kJ;clear hgi hgb c5 p0 qF qX kJ hD hP hU c8;obtain⟨fi,hfi⟩:∃q,(bG G.fields x).getD 0=q:=⟨_,rfl⟩
  have kG:af G i kids 0 nk s (bF (aB r i (ah (aj s))) 1 nx (aa.node 4 x a e kids) (fi !=(nx:Int)))=Q:=by
   rw[<- HQ.out,gX.out,<- aZ.out,Qo,<- hfi]
  have oW:=kH kG;have ql:Hid (rz r (bF (aB r i (ah (aj s))) 1 nx (aa.node 4 x a e kids) (fi !=(nx:Int)))):=kH (by have:=dW.declare r i (ah (aj s)) 1 (aa.node 4 x a e kids) (fi !=(nx:Int));rw[aZ.out]at this;exact this);have jv:Hid ((bF (aB r i (ah (aj s))) 1 nx (aa.node 4 x a e kids) (fi !=(nx:Int))).next=r.next+1):=kH (by have:=rP r i (ah (aj s)) 1 (aa.node 4 x a e kids) (fi !=(nx:Int));rw[aZ.out]at this⊢;exact this)
  have gz:∀r' V' w',VW E G B ⟨kids,4,x,a,e,A,nk,c,w.heap.size+1,w.heap.size⟩ w (fun g=>g=E.vi\/ms.head? =some g) r' V' s p ms w'->(w'.cell? ⟨w.heap.size,0,none⟩=some (.pointer (some ⟨E.rp,0,none⟩))/\w'.cell? ⟨w.heap.size+1,0,none⟩=some (.int .i64 4)/\w'.cell? ⟨w.heap.size+1,1,none⟩=some (.string x)/\w'.cell? ⟨w.heap.size+1,2,none⟩=some (.int .i64 a)/\w'.cell? ⟨w.heap.size+1,3,none⟩=some (.int .i64 e)/\w'.cell? ⟨w.heap.size+1,4,none⟩=some (.slice A nk c)/\w'.cell? ⟨E.rp,1,none⟩=some (.map (some E.f))/\(Instr.lookup 70 (.map (some E.f)) (.string x) false).run Tryz.prog w'= .ok (.int .i64 fi) w'):=fun r' V' w' hv=>by
   obtain⟨⟨y0,-⟩,⟨z0,z1,z2,z3,z4,-⟩,⟨-,d1,-,-,-⟩⟩:=hv.cells;exact⟨y0,z0,z1,z2,z3,z4,d1,by have:=JW w' E.f G.fields hv.R.fl x;rw[hfi]at this;exact this⟩
  have gm:=kH gz;have hdec:=fun q al=>((HV.out.drewN q).drew).Qk (aa.node 4 x a e kids) ⟨rfl,rfl,rfl,rfl,rfl⟩ gX.out HD.out qK.out 1 nx HU.out al
  have Mv:=fun q=>(HV.out.drewN q).drew
  have QA:=kH Mv;have QR:=kH hdec;have hlf:=fun q=>JW (wc.drewN q) E.f G.fields (aY.drewN ig.out.fl q) x
  rw[hfi]at hlf;clear gz hdec Mv kG hfi;go_wp2_with fail
  go_quiet (fail)
  go_wp2_with fail
  go_region_held3 (fun w'=>(w'.cell? ⟨w.heap.size,0,none⟩=some (.pointer (some ⟨E.rp,0,none⟩))/\w'.cell? ⟨w.heap.size+1,0,none⟩=some (.int .i64 4)/\w'.cell? ⟨w.heap.size+1,1,none⟩=some (.string x)/\w'.cell? ⟨w.heap.size+1,2,none⟩=some (.int .i64 a)/\w'.cell? ⟨w.heap.size+1,3,none⟩=some (.int .i64 e)/\w'.cell? ⟨w.heap.size+1,4,none⟩=some (.slice A nk c)/\w'.cell? ⟨E.rp,1,none⟩=some (.map (some E.f))/\(Instr.lookup 70 (.map (some E.f)) (.string x) false).run Tryz.prog w'= .ok (.int .i64 fi) w')) (first|exact gm.out _ _ _ (QA.out _)|exact gm.out _ _ _ (by assumption)) ((go_at_call 147;refine(QR.out _ _).mono ?_;rintro e8 w8 ⟨rfl,V8,h8⟩))
  obtain⟨⟨q8,Ac⟩,⟨-,-,-,-,n8,GD⟩,-⟩:=h8.cells;have hcall:=h8.kids fO.out i 0 nk nk (by omega) gX.out (by show 0+nk<=nk;omega) HCAP.out lS.out (dC.out.kids (t:=(aa.node 4 x a e kids)) ql.out (Nat.add_le_add_left ql.out.next _) (rR.out _ jv.out)) hsep (fun g hg=>.inl hg);rw[oW.out]at hcall;have HC:=kH hcall;clear hcall h8;go_wp2_with fail
  refine HC.out.mono ?_;rintro e10 bJ ⟨rfl,-,yH,h10⟩;have HE:Hid (∃V',bf E G Q.1 V' bJ/\aW bJ E.base p Q.2 ms/\KX E (fun g=>g=E.vi\/ms.head? =some g) w bJ):=kH h10.end_;clear h10 HC q8 n8;go_wp2_with fail
  go_end0
  exact⟨rfl,HE.out⟩
end Go.Proofs.YtoepemlnlpamlaaGreat
