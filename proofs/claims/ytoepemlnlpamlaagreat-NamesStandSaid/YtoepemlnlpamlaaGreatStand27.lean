/- The law NamesStand holds: for every text and every number the law returns true, and its arguments read as before. No condition. Part 27: VisD1 VisAll Srt1. -/
import Derived.Test.YtoepemlnlpamlaaGreatStand22
import Derived.Test.YtoepemlnlpamlaaGreatStand23
import Derived.Test.YtoepemlnlpamlaaGreatStand24
import Derived.Test.YtoepemlnlpamlaaGreatStand25
import Derived.Test.YtoepemlnlpamlaaGreatStand26
set_option maxRecDepth 100000
set_option maxHeartbeats 4000000
namespace Go.Proofs.YtoepemlnlpamlaaGreat
open Go.RowKit
theorem Tj(E:RC)(G:bD)(B:Nat)(hB:B<=E.base)(x:ByteArray)(a e:Int)(kids:List aa)(hih:∀k∈kids,gQ E G B k):gQ E G B (.node 9 x a e kids):=by
 intro i s p ms r V w A c h hs hsep hk hcap hbase hv hrb;obtain⟨nk,hnk⟩:∃q,kids.length=q:=⟨_,rfl⟩
 have hvk:mq s.isEmpty kids=true:=by
  rw[qx,if_neg (by decide),if_neg (by decide),if_neg (by decide)]at hv;exact hv
 have hq:aL G i (aa.node 9 x a e kids) s r=af G i kids 0 kids.length s (ik G s r (aB r i (ah (aj s))) (aa.node 9 x a e kids)):=by
  rw[di];repeat (rw[if_neg (by decide)])
 rw[hq];obtain⟨Q,hQ⟩:∃Q,af G i kids 0 kids.length s (ik G s r (aB r i (ah (aj s))) (aa.node 9 x a e kids))=Q:=⟨_,rfl⟩
 rw[hQ];have HQ:=kH hQ;clear hq hQ;unfold bB;have aU:(aa.node 9 x a e kids).kind=9/\(aa.node 9 x a e kids).text=x/\(aa.node 9 x a e kids).at_=a/\(aa.node 9 x a e kids).end_=e/\(aa.node 9 x a e kids).kids=kids:=⟨rfl,rfl,rfl,rfl,rfl⟩
 rw[aU.1,aU.2.1,aU.2.2.1,aU.2.2.2.1,aU.2.2.2.2,hnk];rw[aU.2.2.2.2]at hk hcap;rw[hnk]at hcap;obtain⟨nx,hnx⟩:∃q,r.next=q:=⟨_,rfl⟩
 have hnb:nx<=1000000:=by have:=hrb.room;have:=hrb.most;omega
 have yT:nk<=1000000:=by have h1:=hrb.room;have h2:=hrb.most;have h3:=dU kids;rw[ai]at h1;omega
 have rq:w.cell? ⟨E.rp,7,none⟩=some (.int .i64 (nx:Int)):=by rw[<- hnx];exact h.blk.cell 7
 have hrw:=h.blk.lt;have hwn:IntKind.i64.wrap ((nx:Int)+1)=(nx:Int)+1:=IntWalk.i64_in _ (by omega);have hfx:=h.blk.frozen 7;have H:=kH h;have HS:=kH hs;have HK:=kH hk;have dC:=kH hrb;have aZ:=kH hnx;have gX:=kH hnk;have lS:=kH hvk;have fO:=kH hih;have HCAP:=kH hcap;have dh:=kH hbase;clear h hs hk hrb hnx hnk hvk hih hv aU hcap hbase;go_enter Tryz.func79,Tryz.ntmps79
 go_upto_if 32 with fail
 generalize hW3:(((w.setCell ⟨E.rp,7,none⟩ (.int .i64 ((nx:Int)+1))).alloc (.cells #[.pointer (some ⟨E.rp,0,none⟩)] 68)).alloc (.cells #[.int .i64 9,.string x,.int .i64 a,.int .i64 e,.slice A nk c] 24))=W3
 obtain⟨hr3,hk3⟩:=H.out.og (nx+1) (fun _=>False)
 have hbW:Below w.heap.size (w.setCell ⟨E.rp,7,none⟩ (.int .i64 ((nx:Int)+1))) W3:=by
  rw[<- hW3];have h1:=ae (w.setCell ⟨E.rp,7,none⟩ (.int .i64 ((nx:Int)+1))) (.cells #[.pointer (some ⟨E.rp,0,none⟩)] 68);have h2:=ae ((w.setCell ⟨E.rp,7,none⟩ (.int .i64 ((nx:Int)+1))).alloc (.cells #[.pointer (some ⟨E.rp,0,none⟩)] 68)) (.cells #[.int .i64 9,.string x,.int .i64 a,.int .i64 e,.slice A nk c] 24);have h3:=h1.trans (h2.mono (by simp));simpa using h3
 have jc:W3.heap.size=w.heap.size+2:=by rw[<- hW3];simp
 have jQ:ak W3 (w.heap.size+1) 24 #[.int .i64 9,.string x,.int .i64 a,.int .i64 e,.slice A nk c]:=by
  have:=ak.new ((w.setCell ⟨E.rp,7,none⟩ (.int .i64 ((nx:Int)+1))).alloc (.cells #[.pointer (some ⟨E.rp,0,none⟩)] 68)) 24 #[.int .i64 9,.string x,.int .i64 a,.int .i64 e,.slice A nk c];rw[hW3]at this;simpa using this
 have hp3:ak W3 w.heap.size 68 #[.pointer (some ⟨E.rp,0,none⟩)]:=by
  have:=(ak.new (w.setCell ⟨E.rp,7,none⟩ (.int .i64 ((nx:Int)+1))) 68 #[.pointer (some ⟨E.rp,0,none⟩)]).alloc (.cells #[.int .i64 9,.string x,.int .i64 a,.int .i64 e,.slice A nk c] 24);rw[hW3]at this;simpa using this
 have HR3:Hid (bf E G { r with next:=nx+1 } V W3):=kH (hr3.below (by simpa using hbW));have gq:Hid (KX E (fun _=>False) w W3):=kH (hk3.trans (KX.of_below (M:=fun _=>False) (by simpa using hbW)) (fun g hg=>.inl hg));have jE:Hid (aW W3 E.base p s ms):=kH (aW.kx gq.out H.out.dN HS.out (fun _ _ h=>h));have lG:=kH jQ;have gW:=kH hp3;have xP:=kH jc;have c5:W3.cell? ⟨E.rp,5,none⟩=some (.map (some E.vi)):=HR3.out.blk.cell 5;have p0:=hp3.cell 0;have qF:=HR3.out.blk.lt;have qX:=hp3.lt;clear hW3 hr3 hk3 hbW jQ hp3 jc rq hfx;go_cut [] (fun wx=> ∃Vx,Hid (bf E G (aB r i (ah (aj s))) Vx wx)/\Hid (KX E (fun g=>g=E.vi) W3 wx))
 case first=>
  cases i with
  | false=>
   go_wp2_with fail
   go_meet
   exact⟨V,by have:=HR3.out;rw[<- aZ.out]at this;exact kH this,kH (KX.refl _ _ _)⟩
  | true=>
   have hbz:E.base<=W3.heap.size:=aac dh.out gq.out.size;have hall:=oz E.base s p ms W3.drew (aW.below ((Below.refl _ W3).drew) jE.out) (by have:=dC.out.uP;have:=aZ.out;omega);have iV:=kH hall
   have gz:∀w':World,aA (fun g=>g=E.vi) W3 w'->w'.cell? ⟨E.rp,5,none⟩=some (.map (some E.vi))/\w'.cell? ⟨w.heap.size,0,none⟩=some (.pointer (some ⟨E.rp,0,none⟩)):=fun w' hw=>by
    have nm:∀{g:Nat}{t:TypeId}{cs:Array Value},ak W3 g t cs->g≠E.vi:=fun hb e=>by
     obtain⟨es,ck,ho⟩:=HR3.out.vi.isMap;subst e;have:W3.heap[_]? =some (Obj.cells _ _ (0,0)):=hb;rw[ho]at this;cases this
    exact⟨(HR3.out.blk.since hw (nm HR3.out.blk)).cell 5,(gW.out.since hw (nm gW.out)).cell 0⟩
   have gm:=kH gz;have hs0:aA (fun g=>g=E.vi) W3 W3.drew:=(aA.refl _ W3).drew
   have eG:(nx:Int) ∉ r.bH.map (·.1):=fun hm=>by
    obtain⟨y,hy,he⟩:=List.mem_map.1 hm;have:=dC.out.bH y hy;have:=aZ.out;omega
   have rD:=kH eG;clear hall gz eG;go_wp2_with fail
   go_region_held3 (fun w'=>w'.cell? ⟨E.rp,5,none⟩=some (.map (some E.vi))/\w'.cell? ⟨w.heap.size,0,none⟩=some (.pointer (some ⟨E.rp,0,none⟩))) (exact gm.out _ (by assumption)) ((go_at_call 145;refine iV.out.mono ?_;rintro e5 w5 ⟨v5,rfl,jY,hb5⟩;have hs5:=hs0.below hb5;obtain⟨w6,hrun,dM,ll,qH⟩:=bU (P:=Tryz.prog) (KK:=iN) (t:=72) (kt:=3) (et:=28) Tryz.underlying72 Tryz.underlying3 ((aY.drew HR3.out.vi).uH hb5) (nx:Int) v5;change (Instr.mapUpdate 72 (.map (some E.vi)) (Value.int .i64 (nx:Int)) v5).run Tryz.prog w5=_ at hrun;have hs6:aA (fun g=>g=E.vi) w5 w6:=(aA.refl (fun g=>g=E.vi) w5).grown ll (fun k hk=>by cases hk;exact .inl rfl);have hs7:=hs5.trans hs6))
   have hlen:(ah (aj s)).length=(aj s).length:=List.length_mergeSort _;have fV:Below W3.heap.size W3 w5:=((Below.refl _ W3).drew).trans hb5;have gG:=HR3.out.oh hbz fV (nx:Int) (ah (aj s)) v5 (by rw[hlen];exact jY) rD.out (fun g=>g=E.vi) rfl dM hs6;have gK:=kH gG;clear gG hs5 hs6 hs7 qH dM fV hb5 jY hs0 hrun ll;go_wp2_with fail
   go_meet
   exact⟨_,by have:=gK.out.1;rw[<- aZ.out]at this;exact kH this,kH gK.out.2⟩
 case rest=>
  obtain⟨Vx,ig,fQ⟩:=hcut;have iy:Hid (KX E (fun g=>g=E.vi) w wc):=kH ((gq.out.mono (fun _ hf=>hf.elim)).trans fQ.out (fun g hg=>.inl hg));have HV:Hid (VW E G B ⟨kids,9,x,a,e,A,nk,c,w.heap.size+1,w.heap.size⟩ w (fun g=>g=E.vi\/ms.head? =some g) (aB r i (ah (aj s))) Vx s p ms wc):=kH ⟨ig.out,aW.kx fQ.out HR3.out.dN jE.out (fun m hm e=>(hsep.apart m hm).2.2.2 e),HR3.out.kQ fQ.out lG.out,HR3.out.nU fQ.out gW.out,iy.out.mono (fun _ h=>.inl h),aK.below ((KX.low iy.out dh.out).mono hB) (aab _) _ _ _ HK.out,aac dh.out (KX.low iy.out dh.out).size,hB⟩;have hlk:=fun q=>fq (wc.drewN q) E.g G.globals (aY.drewN ig.out.gl q) x
  obtain⟨gi,hgi⟩:∃q,(bG G.globals x).getD 0=q:=⟨_,rfl⟩
  obtain⟨gb,hgb⟩:∃q,(bG G.globals x).isSome=q:=⟨_,rfl⟩
  rw[hgi,hgb]at hlk;obtain⟨⟨q0,lp⟩,⟨n0,n1,n2,n3,n4,ln⟩,⟨c0,c1,c2,c8,lr⟩⟩:=HV.out.cells;have uL:=kH hgi;have zq:=kH hgb;have hD:(aB r i (ah (aj s))).ds.length<=1000000:=by show r.ds.length<=_;have:=dC.out.ds;have:=aZ.out;omega
  have hP:(aB r i (ah (aj s))).aR.length<=1000000:=by show r.aR.length<=_;have:=dC.out.aR;have:=aZ.out;omega
  have hU:nx<(aB r i (ah (aj s))).uses.length:=by show nx<r.uses.length;have h1:=dC.out.room;have h2:=aZ.out;rw[ai]at h1;omega
  have HD:=kH hD;have qK:=kH hP;have HU:=kH hU;have kJ:∀u:RS,u.next=r.next+1->u.next<=r.next+1+ag ((aa.node 9 x a e kids).kids.take 0):=fun u hu=>by rw[hu];exact Nat.le_add_right _ _
  have rR:=kH kJ;clear hgi hgb c5 p0 qF qX kJ hD hP hU c8;by_cases h1:x=(⟨#[105,110,116]⟩:ByteArray)
  ·have hsc:iB x=true:=by rw[h1];rfl
   have f1:x.toList=[105,110,116]:=by rw[h1,ByteArray.toList_eq]
   clear h1
   have hu:ik G s r (aB r i (ah (aj s))) (aa.node 9 x a e kids)=(aB r i (ah (aj s))):=by
    unfold ik;show(if (9:Int)=20 then _ else if (9:Int)=22 then _ else if (9:Int)=27 then _ else if (9:Int)=19 then _ else if (9:Int)=9/\iB x=false then _ else _)=_;rw[if_neg (by decide),if_neg (by decide),if_neg (by decide),if_neg (by decide)];exact if_neg (fun(h:(9:Int)=9/\iB x=false)=>by rw[hsc]at h;cases h.2)
   have hcall:=fun q=>(HV.out.drewN q).kids fO.out i 0 nk nk (by omega) gX.out (by show 0+nk<=nk;omega) HCAP.out lS.out (dC.out.kids (t:=(aa.node 9 x a e kids)) (dW.none_ r i _) (Nat.add_le_add_left (Nat.le_succ _) _) (rR.out _ rfl)) hsep (fun g hg=>.inl hg)
   have kG:af G i kids 0 nk s (aB r i (ah (aj s)))=Q:=by rw[<- HQ.out,hu,gX.out]
   have oW:=kH kG;have Nh:=kH hcall;clear hcall kG hu hsc;go_wp2_with fail
   go_quiet (fail)
   go_wp2_with fail
   refine(Nh.out _).mono ?_;rintro e10 bJ ⟨rfl,-,yH,h10⟩;have HE:Hid (∃V',bf E G Q.1 V' bJ/\aW bJ E.base p Q.2 ms/\KX E (fun g=>g=E.vi\/ms.head? =some g) w bJ):=kH (by rw[<- oW.out];exact h10.end_);clear h10 Nh;go_wp2_with fail
   go_end0
   exact⟨rfl,HE.out⟩
  by_cases h2:x=(⟨#[98,111,111,108]⟩:ByteArray)
  ·have hsc:iB x=true:=by rw[h2];rfl
   have f1:x.toList=[98,111,111,108]:=by rw[h2,ByteArray.toList_eq]
   clear h1 h2
   have hu:ik G s r (aB r i (ah (aj s))) (aa.node 9 x a e kids)=(aB r i (ah (aj s))):=by
    unfold ik;show(if (9:Int)=20 then _ else if (9:Int)=22 then _ else if (9:Int)=27 then _ else if (9:Int)=19 then _ else if (9:Int)=9/\iB x=false then _ else _)=_;rw[if_neg (by decide),if_neg (by decide),if_neg (by decide),if_neg (by decide)];exact if_neg (fun(h:(9:Int)=9/\iB x=false)=>by rw[hsc]at h;cases h.2)
   have hcall:=fun q=>(HV.out.drewN q).kids fO.out i 0 nk nk (by omega) gX.out (by show 0+nk<=nk;omega) HCAP.out lS.out (dC.out.kids (t:=(aa.node 9 x a e kids)) (dW.none_ r i _) (Nat.add_le_add_left (Nat.le_succ _) _) (rR.out _ rfl)) hsep (fun g hg=>.inl hg)
   have kG:af G i kids 0 nk s (aB r i (ah (aj s)))=Q:=by rw[<- HQ.out,hu,gX.out]
   have oW:=kH kG;have Nh:=kH hcall;clear hcall kG hu hsc;go_wp2_with fail
   go_quiet (fail)
   go_wp2_with fail
   refine(Nh.out _).mono ?_;rintro e10 bJ ⟨rfl,-,yH,h10⟩;have HE:Hid (∃V',bf E G Q.1 V' bJ/\aW bJ E.base p Q.2 ms/\KX E (fun g=>g=E.vi\/ms.head? =some g) w bJ):=kH (by rw[<- oW.out];exact h10.end_);clear h10 Nh;go_wp2_with fail
   go_end0
   exact⟨rfl,HE.out⟩
  have hsc:iB x=false:=by
   unfold iB;rw[decide_eq_false h1,decide_eq_false h2];rfl
  have f1:¬x.toList=[105,110,116]:=fun h=>h1 (vC (by rw[<- ByteArray.toList_eq,h]))
  have f2:¬x.toList=[98,111,111,108]:=fun h=>h2 (vC (by rw[<- ByteArray.toList_eq,h]))
  have g1:(x.toList==[105,110,116])=false:=by rw[beq_eq_false_iff_ne];exact f1
  have g2:(x.toList==[98,111,111,108])=false:=by rw[beq_eq_false_iff_ne];exact f2
  clear h1 h2;obtain⟨tq,qY⟩:∃tq,((bY G.globals x).filter fun j=>decide (mM G j=3))=tq:=⟨_,rfl⟩
  have HTQ:=kH qY
  have kG:af G i kids 0 nk s (gB (aB r i (ah (aj s))) nx (aa.node 9 x a e kids) tq)=Q:=by
   rw[<- HQ.out,gX.out,<- qY,<- aZ.out]
   have:ik G s r (aB r i (ah (aj s))) (aa.node 9 x a e kids)=gB (aB r i (ah (aj s))) r.next (aa.node 9 x a e kids) ((bY G.globals x).filter fun j=>decide (mM G j=3)):=by
    unfold ik;show(if (9:Int)=20 then _ else if (9:Int)=22 then _ else if (9:Int)=27 then _ else if (9:Int)=19 then _ else if (9:Int)=9/\iB x=false then _ else _)=_;rw[if_neg (by decide),if_neg (by decide),if_neg (by decide),if_neg (by decide)];exact if_pos ⟨rfl,hsc⟩
   rw[this]
  have oW:=kH kG;have ql:Hid (rz r (gB (aB r i (ah (aj s))) nx (aa.node 9 x a e kids) tq)):=kH (by have:=dW.CS r i (ah (aj s)) (aa.node 9 x a e kids) tq;rw[aZ.out]at this;exact this);have jv:Hid ((gB (aB r i (ah (aj s))) nx (aa.node 9 x a e kids) tq).next=r.next+1):=kH (by cases tq<;>rfl);clear kG hsc;obtain⟨kk,hkk⟩:∃q,mM G gi=q:=⟨_,rfl⟩
  have hty:∀k,tq=some k->k=gi:=fun k hk=>by
   rw[<- qY]at hk;rw[<- uL.out]
   cases hl:bG G.globals x with
   | none=>rw[show bY G.globals x=none from hl]at hk;cases hk
   | some y=>
    rw[show bY G.globals x=some y from hl]at hk;have:=(Option.filter_eq_some_iff.1 hk).1;simp only[aag]at this;rw[<- this];rfl
  have htb:tq.isSome=(gb&&(kk==3)):=by
   rw[<- qY,<- zq.out,<- hkk,<- uL.out]
   cases hl:bG G.globals x with
   | none=>rw[show bY G.globals x=none from hl];rfl
   | some y=>
    rw[show bY G.globals x=some y from hl];show(Option.filter (fun j=>decide (mM G j=3)) (some y)).isSome=(true&&(mM G y==3));by_cases hy:mM G y=3
    ·simp[hy]
    ·simp[hy]
  have gz:∀r' V' w',VW E G B ⟨kids,9,x,a,e,A,nk,c,w.heap.size+1,w.heap.size⟩ w (fun g=>g=E.vi\/ms.head? =some g) r' V' s p ms w'->(w'.cell? ⟨w.heap.size,0,none⟩=some (.pointer (some ⟨E.rp,0,none⟩))/\w'.cell? ⟨w.heap.size+1,0,none⟩=some (.int .i64 9)/\w'.cell? ⟨w.heap.size+1,1,none⟩=some (.string x)/\w'.cell? ⟨w.heap.size+1,2,none⟩=some (.int .i64 a)/\w'.cell? ⟨w.heap.size+1,3,none⟩=some (.int .i64 e)/\w'.cell? ⟨w.heap.size+1,4,none⟩=some (.slice A nk c)/\w'.cell? ⟨E.rp,2,none⟩=some (.map (some E.k))/\(Instr.lookup 71 (.map (some E.k)) (.int .i64 gi) false).run Tryz.prog w'= .ok (.int .i64 kk) w'):=fun r' V' w' hv=>by
   obtain⟨⟨y0,-⟩,⟨z0,z1,z2,z3,z4,-⟩,⟨-,-,d2,-,-⟩⟩:=hv.cells;exact⟨y0,z0,z1,z2,z3,z4,d2,by have:=uu w' E.k G.kinds hv.R.kn gi;rw[show(bG G.kinds gi).getD 0=kk from hkk]at this;exact this⟩
  have gm:=kH gz;have mZ:=fun q=>((HV.out.drewN q).drew).NT (aa.node 9 x a e kids) ⟨rfl,rfl,rfl,rfl,rfl⟩ gX.out qK.out nx HU.out tq gi hty
  rw[htb]at mZ;have Mv:=fun q=>(HV.out.drewN q).drew
  have QA:=kH Mv;have hlf:=fun q=>uu (wc.drewN q) E.k G.kinds (aY.drewN ig.out.kn q) gi
  rw[show(bG G.kinds gi).getD 0=kk from hkk]at hlf;clear gz Mv qY hty htb hkk
  cases gb with
  | false=>
   rw[Bool.false_and]at mZ;have zl:=kH mZ;clear mZ;go_wp2_with fail
   go_quiet (fail)
   go_wp2_with fail
   have hS0:=gm.out _ _ _ (QA.out nq);refine lI (fun w'=>(w'.cell? ⟨w.heap.size,0,none⟩=some (.pointer (some ⟨E.rp,0,none⟩))/\w'.cell? ⟨w.heap.size+1,0,none⟩=some (.int .i64 9)/\w'.cell? ⟨w.heap.size+1,1,none⟩=some (.string x)/\w'.cell? ⟨w.heap.size+1,2,none⟩=some (.int .i64 a)/\w'.cell? ⟨w.heap.size+1,3,none⟩=some (.int .i64 e)/\w'.cell? ⟨w.heap.size+1,4,none⟩=some (.slice A nk c)/\w'.cell? ⟨E.rp,2,none⟩=some (.map (some E.k))/\(Instr.lookup 71 (.map (some E.k)) (.int .i64 gi) false).run Tryz.prog w'= .ok (.int .i64 kk) w')) [] [true,true,true,true,true,true,true,true,true,true,true,true,true,true,false] (by kernel_rfl) (by kernel_rfl) rfl (by kernel_rfl) ?_;iterate 14((first|(refine oF (by rfl) hS0 ?_)|(refine mV (by rfl) hS0 (by intro w' hSw;obtain⟨hs1,hs2,hs3,hs4,hs5,hs6,hs7,jh⟩:=hSw;go_simp;rfl) ?_));simp only[Act.put,sA,sZ,sC])
   refine vH (by rfl) (by go_simp) ((zl.out _).mono ?_);rintro e8 w8 ⟨rfl,V8,h8⟩;refine⟨_,rfl,fun _=>gm.out _ _ _ h8,?_⟩;simp only[Act.put,sA,sZ,sC];refine qL ?_;obtain⟨⟨q8,Ac⟩,⟨-,-,-,-,n8,GD⟩,-⟩:=h8.cells;have hcall:=h8.kids fO.out i 0 nk nk (by omega) gX.out (by show 0+nk<=nk;omega) HCAP.out lS.out (dC.out.kids (t:=(aa.node 9 x a e kids)) ql.out (Nat.add_le_add_left ql.out.next _) (rR.out _ jv.out)) hsep (fun g hg=>.inl hg);rw[oW.out]at hcall;have HC:=kH hcall;clear hcall h8;go_wp2_with fail
   refine HC.out.mono ?_;rintro e10 bJ ⟨rfl,-,yH,h10⟩;have HE:Hid (∃V',bf E G Q.1 V' bJ/\aW bJ E.base p Q.2 ms/\KX E (fun g=>g=E.vi\/ms.head? =some g) w bJ):=kH h10.end_;clear h10 HC q8 n8;go_wp2_with fail
   go_end0
   exact⟨rfl,HE.out⟩
  | true=>
   rw[Bool.true_and]at mZ;have zl:=kH mZ;clear mZ;go_wp2_with fail
   go_quiet (fail)
   go_wp2_with fail
   have hS0:=gm.out _ _ _ (QA.out nq);refine lI (fun w'=>(w'.cell? ⟨w.heap.size,0,none⟩=some (.pointer (some ⟨E.rp,0,none⟩))/\w'.cell? ⟨w.heap.size+1,0,none⟩=some (.int .i64 9)/\w'.cell? ⟨w.heap.size+1,1,none⟩=some (.string x)/\w'.cell? ⟨w.heap.size+1,2,none⟩=some (.int .i64 a)/\w'.cell? ⟨w.heap.size+1,3,none⟩=some (.int .i64 e)/\w'.cell? ⟨w.heap.size+1,4,none⟩=some (.slice A nk c)/\w'.cell? ⟨E.rp,2,none⟩=some (.map (some E.k))/\(Instr.lookup 71 (.map (some E.k)) (.int .i64 gi) false).run Tryz.prog w'= .ok (.int .i64 kk) w')) [] [true,true,true,true,true,true,true,true,true,true,true,true,true,true,false] (by kernel_rfl) (by kernel_rfl) rfl (by kernel_rfl) ?_;iterate 14((first|(refine oF (by rfl) hS0 ?_)|(refine mV (by rfl) hS0 (by intro w' hSw;obtain⟨hs1,hs2,hs3,hs4,hs5,hs6,hs7,jh⟩:=hSw;go_simp;rfl) ?_));simp only[Act.put,sA,sZ,sC])
   refine vH (by rfl) (by go_simp) ((zl.out _).mono ?_);rintro e8 w8 ⟨rfl,V8,h8⟩;refine⟨_,rfl,fun _=>gm.out _ _ _ h8,?_⟩;simp only[Act.put,sA,sZ,sC];refine qL ?_;obtain⟨⟨q8,Ac⟩,⟨-,-,-,-,n8,GD⟩,-⟩:=h8.cells;have hcall:=h8.kids fO.out i 0 nk nk (by omega) gX.out (by show 0+nk<=nk;omega) HCAP.out lS.out (dC.out.kids (t:=(aa.node 9 x a e kids)) ql.out (Nat.add_le_add_left ql.out.next _) (rR.out _ jv.out)) hsep (fun g hg=>.inl hg);rw[oW.out]at hcall;have HC:=kH hcall;clear hcall h8;go_wp2_with fail
   refine HC.out.mono ?_;rintro e10 bJ ⟨rfl,-,yH,h10⟩;have HE:Hid (∃V',bf E G Q.1 V' bJ/\aW bJ E.base p Q.2 ms/\KX E (fun g=>g=E.vi\/ms.head? =some g) w bJ):=kH h10.end_;clear h10 HC q8 n8;go_wp2_with fail
   go_end0
   exact⟨rfl,HE.out⟩
end Go.Proofs.YtoepemlnlpamlaaGreat
namespace Go.Proofs.YtoepemlnlpamlaaGreat
theorem Dx:∀{ts:List aa}{c:aa},c∈ts->ai c<=ag ts
 | [],c,h=>by cases h
 | t::ts,c,h=>by
  rw[ag];rcases List.mem_cons.1 h with rfl|h
  ·omega
  ·have:=Dx h
   omega
theorem Rx(E:RC)(G:bD)(B:Nat)(hB:B<=E.base):∀(n:Nat) (t:aa),ai t<=n->gQ E G B t
 | 0,t,h=>by
  have:=su t;omega
 | n+1,.node k x a e kids,h=>by
  have hih:∀c∈kids,gQ E G B c:=fun c hc=>Rx E G B hB n c (by
   have:=Dx hc;rw[ai]at h
   omega)
  by_cases h3:k=3
  ·subst h3;exact NQ E G B hB x a e kids hih
  by_cases h4:k=4
  ·subst h4;exact QY E G B hB x a e kids hih
  by_cases h5:k=5
  ·subst h5;exact Tk E G B hB x a e kids hih
  by_cases h7:k=7
  ·subst h7;exact QW E G B hB x a e kids hih
  by_cases h8:k=8
  ·subst h8;exact Ld E G B hB x a e kids hih
  by_cases h11:k=11
  ·subst h11;exact QZ E G B hB x a e kids hih
  by_cases h12:k=12
  ·subst h12;exact VD E G B hB x a e kids hih
  by_cases h16:k=16
  ·subst h16;exact VE E G B hB x a e kids hih
  by_cases h20:k=20
  ·subst h20;exact Tm E G B hB x a e kids hih
  by_cases h22:k=22
  ·subst h22;exact NR E G B hB x a e kids hih
  by_cases h27:k=27
  ·subst h27;exact Tt E G B hB x a e kids hih
  by_cases h19:k=19
  ·subst h19;exact XT E G B hB x a e kids hih
  by_cases h9:k=9
  ·subst h9;exact Tj E G B hB x a e kids hih
  exact QX E G B hB k x a e kids hih h3 h4 h5 h7 h8 h11 h12 h16 h20 h22 h27 h19 h9
theorem VG(E:RC)(G:bD)(B:Nat)(hB:B<=E.base)(t:aa):gQ E G B t:=Rx E G B hB (ai t) t (aab _)
open Go.RowKit
theorem ES(x:Int)(w:World):Calls Tryz.prog 151 #[.int .i64 x] w fun e w'=>e= .returned (.bool false)/\w'=w:=by
 go_enter Tryz.func151,Tryz.ntmps151
 go_wp2_with fail
 go_ret
 exact⟨rfl,rfl⟩
def AV(a b:Int):Int:=if a<b then -1 else if b<a then 1 else 0
theorem Rn(a b:Int)(w:World):Calls Tryz.prog 82 #[.int .i64 a,.int .i64 b] w fun e w'=>e= .returned (.int .i64 (AV a b))/\w'=w:=by
 unfold AV;by_cases h1:a<b
 ·rw[if_pos h1]
  go_enter Tryz.func82,Tryz.ntmps82
  go_wp2_with (go_at_call 151;refine(ES _ _).mono ?_;rintro e w2 ⟨rfl,rfl⟩)
  go_ret
  exact⟨rfl,rfl⟩
 ·rw[if_neg h1]
  by_cases h2:b<a
  ·rw[if_pos h2]
   go_enter Tryz.func82,Tryz.ntmps82
   go_wp2_with (go_at_call 151;refine(ES _ _).mono ?_;rintro e w2 ⟨rfl,rfl⟩)
   go_ret
   exact⟨rfl,rfl⟩
  ·rw[if_neg h2]
   go_enter Tryz.func82,Tryz.ntmps82
   go_wp2_with (go_at_call 151;refine(ES _ _).mono ?_;rintro e w2 ⟨rfl,rfl⟩)
   go_ret
   exact⟨rfl,rfl⟩
theorem Cy(a1 a2 a3 a4 b1 b2 b3 b4:Int)(ax bx:ByteArray)(av bv:Value)(w:World):
 Calls Tryz.prog 81 #[.agg #[.int .i64 a1,.int .i64 a2,.int .i64 a3,.int .i64 a4,.string ax,av],.agg #[.int .i64 b1,.int .i64 b2,.int .i64 b3,.int .i64 b4,.string bx,bv]] w fun e w'=>e= .returned (.int .i64 (AV a1 b1))/\Below w.heap.size w w':=by
 have hc:=fun w=>Rn a1 b1 w
 obtain⟨q,hq⟩:∃q,AV a1 b1=q:=⟨_,rfl⟩
 rw[hq]at hc⊢;clear hq;go_enter Tryz.func81,Tryz.ntmps81
 go_wp2_with (go_at_call 82;refine(hc _).mono ?_;rintro e w2 ⟨rfl,rfl⟩)
 go_ret
 exact⟨rfl,by(repeat (first|exact Below.refl _ _|assumption|refine Below.trans ?_ (Below.mono (by assumption) (by first|omega|(simp;done)|(simp;omega)))|refine Below.alloc ?_ (by first|omega|(simp;done)|(simp;omega)) _|refine Below.setCell ?_ (by first|omega|(simp;done)|(simp;omega)) _|refine Below.drew ?_|refine bq ?_ _))⟩
theorem zW{w:World}{A:Option Addr}{l:List (Int×Dg)}(h:df 6 iR w w.heap.size A l){i j:Nat}{p q:Int×Dg}(hi:l[i]? =some p)(hj:l[j]? =some q):
 ∃b off,A=some ⟨b,off,none⟩/\b<w.heap.size/\∀w',Below w.heap.size w w' ->
  w'.cell? ⟨b,off+i*6,none⟩=some (.int .i64 p.1)/\w'.cell? ⟨b,off+i*6+1,none⟩=some (.int .i64 p.2.code)/\w'.cell? ⟨b,off+i*6+2,none⟩=some (.int .i64 p.2.at_)/\w'.cell? ⟨b,off+i*6+3,none⟩=some (.int .i64 p.2.end_)/\w'.cell? ⟨b,off+i*6+4,none⟩=some (.string p.2.text)/\w'.cell? ⟨b,off+i*6+5,none⟩=some (.slice none 0 0) /\
  w'.cell? ⟨b,off+j*6,none⟩=some (.int .i64 q.1)/\w'.cell? ⟨b,off+j*6+1,none⟩=some (.int .i64 q.2.code)/\w'.cell? ⟨b,off+j*6+2,none⟩=some (.int .i64 q.2.at_)/\w'.cell? ⟨b,off+j*6+3,none⟩=some (.int .i64 q.2.end_)/\w'.cell? ⟨b,off+j*6+4,none⟩=some (.string q.2.text)/\w'.cell? ⟨b,off+j*6+5,none⟩=some (.slice none 0 0):=by
 obtain⟨b,off,hA,hlt,hc⟩:=h i p hi;obtain⟨b',off',hA',-,hd⟩:=h j q hj;rw[hA]at hA';simp only[aag,Addr.mk.injEq,and_true]at hA';obtain⟨rfl,rfl⟩:=hA';refine⟨b,off,hA,hlt,fun w' hb=>?_⟩;have hk:∀(o:Nat) (v:Value),w.cell? ⟨b,o,none⟩=some v->w'.cell? ⟨b,o,none⟩=some v:=fun o v h=>(hb.cell (p:=⟨b,o,none⟩) hlt).trans h
 exact⟨hk _ _ (hc 0 _ rfl),hk _ _ (hc 1 _ rfl),hk _ _ (hc 2 _ rfl),hk _ _ (hc 3 _ rfl),hk _ _ (hc 4 _ rfl),hk _ _ (hc 5 _ rfl),hk _ _ (hd 0 _ rfl),hk _ _ (hd 1 _ rfl),hk _ _ (hd 2 _ rfl),hk _ _ (hd 3 _ rfl),hk _ _ (hd 4 _ rfl),hk _ _ (hd 5 _ rfl)⟩
def xO(l:List (Int×Dg)):Prop:=l.Pairwise fun x y=>x.1<y.1
theorem xO.lt{l:List (Int×Dg)}(h:xO l){i j:Nat}{p q:Int×Dg}(hi:l[i]? =some p)(hj:l[j]? =some q)(hij:i<j):p.1<q.1:=by
 obtain⟨h1,rfl⟩:=aah.1 hi;obtain⟨h2,rfl⟩:=aah.1 hj;exact List.pairwise_iff_getElem.1 h i j h1 h2 hij
theorem xO.cmp{l:List (Int×Dg)}(h:xO l){i j:Nat}{p q:Int×Dg}(hi:l[i]? =some p)(hj:l[j]? =some q)(hij:i<j):AV q.1 p.1=1:=by
 have:=h.lt hi hj hij;unfold AV;rw[if_neg (by omega),if_pos this]
theorem ins_any(l:List (Int×Dg))(A:Option Addr)(n c a b:Nat)(w:World)(hn:l.length=n)(hR:df 6 iR w w.heap.size A l)(hS:xO l)(hab:a<=b)(hb:b<=n)(hm:n<=1000000):
 Calls Tryz.prog 202 #[.slice A n c,.int .i64 (a:Int),.int .i64 (b:Int),.func (.func 81) #[] #[]] w fun e w'=>e= .returned (.tuple #[])/\Below w.heap.size w w':=by
 have HR:=kH hR;have HS:=kH hS;have HN:=kH hn;clear hR hS hn;have hwa:IntKind.i64.wrap ((a:Int)+1)=(a:Int)+1:=IntWalk.i64_in _ (by omega);go_enter Tryz.func202,Tryz.ntmps202
 go_wp2_with fail
 go_loopg [8] (b+1 - a) (fun gk s8 wr=> ∃i:Nat,s8= .int .i64 ((i:Int)+1)/\a<=i/\i<=b/\gk=b+1 - i/\Hid (Below w.heap.size w wr))
 case atStart=>exact⟨a,rfl,aab _,hab,rfl,kH (Below.refl _ _)⟩
 case round=>
  obtain⟨i,rfl,hai,hib,hgi,HB⟩:=hrel;by_cases hlt:i+1<b
  ·have hlt':(i:Int)+1<(b:Int):=by omega
   have hgt':(a:Int)<(i:Int)+1:=by omega
   obtain⟨p,hp⟩:∃p,l[i+1]? =some p:=⟨_,aaf (by rw[HN.out];omega)⟩
   obtain⟨q,hq⟩:∃q,l[i]? =some q:=⟨_,aaf (by rw[HN.out];omega)⟩
   have hcmp:=HS.out.cmp hq hp (by omega);have hRr:df 6 iR wr wr.heap.size A l:=HR.out.later HB.out;obtain⟨bb,off,hA,hbl,hcs⟩:=zW hRr hp hq;subst hA;obtain⟨p1,p2,p3,p4,p5,hpe⟩:∃p1 p2 p3 p4 p5,p=(p1,(⟨p2,p3,p4,p5⟩:Dg)):=⟨_,_,_,_,_,rfl⟩
   obtain⟨q1,q2,q3,q4,q5,hqe⟩:∃q1 q2 q3 q4 q5,q=(q1,(⟨q2,q3,q4,q5⟩:Dg)):=⟨_,_,_,_,_,rfl⟩
   subst hpe hqe;have hcall:=fun w'=>Cy p1 p2 p3 p4 q1 q2 q3 q4 p5 q5 (.slice none 0 0) (.slice none 0 0) w'
   rw[show AV p1 q1=1 from hcmp]at hcall;have HC:=kH hcall;have K8:=kH hcs;have hw1:IntKind.i64.wrap ((i:Int)+1+1)=(i:Int)+1+1:=IntWalk.i64_in _ (by omega);have hw0:IntKind.i64.wrap (i:Int)=(i:Int):=IntWalk.i64_in _ (by omega);have hi1:((i:Int)+1).toNat=i+1:=by omega
   have hin:i+1<n:=by omega
   have hin0:i<n:=by omega
   have hz0:(0:Int)<=(i:Int)+1:=by omega
   have hz1:(i:Int)+1<(n:Int):=by omega
   have hS0:=hcs wr.drew ((Below.refl _ _).drew);clear hcall hcs hcmp hp hq hRr;go_wp2_with fail
   refine wp_loop_rounds 1 ?_;rw[rounds_succ];go_wp2_with fail
   refine lI (fun w'=>Below wr.heap.size wr w'/\w'.cell? ⟨bb,off+(i+1)*6,none⟩=some (.int .i64 p1)/\w'.cell? ⟨bb,off+(i+1)*6+1,none⟩=some (.int .i64 p2)/\w'.cell? ⟨bb,off+(i+1)*6+2,none⟩=some (.int .i64 p3)/\w'.cell? ⟨bb,off+(i+1)*6+3,none⟩=some (.int .i64 p4)/\w'.cell? ⟨bb,off+(i+1)*6+4,none⟩=some (.string p5)/\w'.cell? ⟨bb,off+(i+1)*6+5,none⟩=some (.slice none 0 0)/\w'.cell? ⟨bb,off+i*6,none⟩=some (.int .i64 q1)/\w'.cell? ⟨bb,off+i*6+1,none⟩=some (.int .i64 q2)/\w'.cell? ⟨bb,off+i*6+2,none⟩=some (.int .i64 q3)/\w'.cell? ⟨bb,off+i*6+3,none⟩=some (.int .i64 q4)/\w'.cell? ⟨bb,off+i*6+4,none⟩=some (.string q5)/\w'.cell? ⟨bb,off+i*6+5,none⟩=some (.slice none 0 0)) [] [true,true,true,true,true,true,true,true,true,true,true,true,true,true,false,true,true] (by kernel_rfl) (by kernel_rfl) rfl (by kernel_rfl) ?_;have hS1:=And.intro ((Below.refl wr.heap.size wr).drew) hS0;clear hS0;iterate 14((first|(refine oF (by rfl) hS1 ?_)|(refine mV (by rfl) hS1 (by intro w' hSw;obtain⟨-,hs1,hs2,hs3,hs4,hs5,hs6,hs7,jh,tL,uZ,sN,IV⟩:=hSw;go_simp;rfl) ?_));simp only[Act.put,sA,sZ,sC])
   refine vH (by rfl) (by go_simp) ((HC.out _).mono ?_);rintro e5 w5 ⟨rfl,hb5⟩;have hbr:Below wr.heap.size wr w5:=((Below.refl wr.heap.size wr).drew).trans hb5;have hS2:=And.intro hbr (K8.out w5 hbr);refine⟨_,rfl,fun _=>hS2,?_⟩;iterate 2(simp only[Act.put,sA,sZ,sC];(first|(refine oF (by rfl) hS2 ?_)|(refine mV (by rfl) hS2 (by intro w' hSw;obtain⟨-,hs1,hs2,hs3,hs4,hs5,hs6,hs7,jh,tL,uZ,sN,IV⟩:=hSw;go_simp;rfl) ?_)))
   simp only[Act.put,sA,sZ,sC];refine qL ?_;have fT:Hid (Below w.heap.size w w5):=kH (HB.out.trans (hbr.mono HB.out.size));clear hS1 hS2 hbr hb5;go_wp2_with fail
   go_roundg (gk - 1)
   case measure=>omega
   case rel=>exact⟨i+1,by simp,by omega,by omega,by omega,fT⟩
  ·have hge:(b:Int)<=(i:Int)+1:=by omega
   go_wp2_with fail
   go_end0
   exact⟨rfl,HB.out⟩
end Go.Proofs.YtoepemlnlpamlaaGreat
