/- The law NamesFreeAt holds: for every text and every number the law returns true, and its arguments read as before. No condition. Part 23: VisA1 VisA2 VisA3 VisB0. -/
import Derived.Test.YtoepemlnlpamlaaGreatFreeAt22
namespace Go.Proofs.YtoepemlnlpamlaaGreat
set_option maxRecDepth 100000
set_option maxHeartbeats 4000000
open Go.RowKit
theorem visit_name (E:RC) (G:Glob) (B:Nat) (hB:B≤E.base) (x:ByteArray) (a e:Int) (kids:List Tree) (hih:∀ k ∈ kids,VisitC E G B k):VisitC E G B (.node 20 x a e kids):=by
 intro i s p ms r V w A c h hs hsep hk hcap hbase hv hrb
 obtain⟨nk,hnk⟩:∃ q,kids.length=q:=⟨_,rfl⟩
 have hvk:VOks s.isEmpty kids=true:=by
  rw[VOk,if_neg (by decide),if_neg (by decide),if_neg (by decide)]at hv;exact hv
 have hq:visitM G i (Tree.node 20 x a e kids) s r=visitsM G i kids 0 kids.length s (useN G s r (entM r i (sortI (allS s))) (Tree.node 20 x a e kids)):=by
  rw[visitM_eq]
  repeat (rw[if_neg (by decide)])
 rw[hq]
 obtain⟨Q,hQ⟩:∃ Q,visitsM G i kids 0 kids.length s (useN G s r (entM r i (sortI (allS s))) (Tree.node 20 x a e kids))=Q:=⟨_,rfl⟩
 rw[hQ];have HQ:=kH hQ;clear hq hQ;unfold nodeV
 have hfive:(Tree.node 20 x a e kids).kind=20∧(Tree.node 20 x a e kids).text=x∧(Tree.node 20 x a e kids).at_=a∧(Tree.node 20 x a e kids).end_=e∧(Tree.node 20 x a e kids).kids=kids:=⟨rfl,rfl,rfl,rfl,rfl⟩
 rw[hfive.1,hfive.2.1,hfive.2.2.1,hfive.2.2.2.1,hfive.2.2.2.2,hnk];rw[hfive.2.2.2.2]at hk hcap;rw[hnk]at hcap
 obtain⟨nx,hnx⟩:∃ q,r.next=q:=⟨_,rfl⟩
 have hnb:nx≤1000000:=by have:=hrb.room;have:=hrb.most;omega
 have hnkb:nk≤1000000:=by have h1:=hrb.room;have h2:=hrb.most;have h3:=counts_len kids;rw[countM]at h1;omega
 have c7w:w.cell? ⟨E.rp,7,none⟩=some (.int .i64 (nx:Int)):=by rw[← hnx];exact h.blk.cell 7
 have hrw:=h.blk.lt;have hwn:IntKind.i64.wrap ((nx:Int)+1)=(nx:Int)+1:=IntWalk.i64_in _ (by omega);have hfx:=h.blk.frozen 7;have H:=kH h;have HS:=kH hs;have HK:=kH hk;have HRB:=kH hrb;have HNX:=kH hnx;have HNK:=kH hnk;have HVK:=kH hvk;have HIH:=kH hih;have HCAP:=kH hcap;have HBASE:=kH hbase;clear h hs hk hrb hnx hnk hvk hih hv hfive hcap hbase
 go_enter Tryz.func79,Tryz.ntmps79
 go_upto_if 32 with fail
 generalize hW3:(((w.setCell ⟨E.rp,7,none⟩ (.int .i64 ((nx:Int)+1))).alloc (.cells #[.pointer (some ⟨E.rp,0,none⟩)] 68)).alloc (.cells #[.int .i64 20,.string x,.int .i64 a,.int .i64 e,.slice A nk c] 24))=W3
 obtain⟨hr3,hk3⟩:=H.out.setNext (nx+1) (fun _=>False)
 have hbW:Below w.heap.size (w.setCell ⟨E.rp,7,none⟩ (.int .i64 ((nx:Int)+1))) W3:=by
  rw[← hW3];have h1:=below_alloc (w.setCell ⟨E.rp,7,none⟩ (.int .i64 ((nx:Int)+1))) (.cells #[.pointer (some ⟨E.rp,0,none⟩)] 68);have h2:=below_alloc ((w.setCell ⟨E.rp,7,none⟩ (.int .i64 ((nx:Int)+1))).alloc (.cells #[.pointer (some ⟨E.rp,0,none⟩)] 68)) (.cells #[.int .i64 20,.string x,.int .i64 a,.int .i64 e,.slice A nk c] 24);have h3:=h1.trans (h2.mono (by simp))
  simpa using h3
 have hsz3:W3.heap.size=w.heap.size+2:=by rw[← hW3];simp
 have hn3:Blk W3 (w.heap.size+1) 24 #[.int .i64 20,.string x,.int .i64 a,.int .i64 e,.slice A nk c]:=by
  have:=Blk.new ((w.setCell ⟨E.rp,7,none⟩ (.int .i64 ((nx:Int)+1))).alloc (.cells #[.pointer (some ⟨E.rp,0,none⟩)] 68)) 24 #[.int .i64 20,.string x,.int .i64 a,.int .i64 e,.slice A nk c];rw[hW3]at this
  simpa using this
 have hp3:Blk W3 w.heap.size 68 #[.pointer (some ⟨E.rp,0,none⟩)]:=by
  have:=(Blk.new (w.setCell ⟨E.rp,7,none⟩ (.int .i64 ((nx:Int)+1))) 68 #[.pointer (some ⟨E.rp,0,none⟩)]).alloc (.cells #[.int .i64 20,.string x,.int .i64 a,.int .i64 e,.slice A nk c] 24);rw[hW3]at this
  simpa using this
 have HR3:Hid (RSAt E G { r with next:=nx+1 } V W3):=kH (hr3.below (by simpa using hbW));have HK3:Hid (KX E (fun _=>False) w W3):=kH (hk3.trans (KX.of_below (M:=fun _=>False) (by simpa using hbW)) (fun g hg=>.inl hg));have HS3:Hid (ScAt W3 E.base p s ms):=kH (ScAt.kx HK3.out H.out.notScope HS.out (fun _ _ h=>h));have HN3:=kH hn3;have HP3:=kH hp3;have HSZ3:=kH hsz3;have c5:W3.cell? ⟨E.rp,5,none⟩=some (.map (some E.vi)):=HR3.out.blk.cell 5;have p0:=hp3.cell 0;have lr3:=HR3.out.blk.lt;have lp3:=hp3.lt;clear hW3 hr3 hk3 hbW hn3 hp3 hsz3 c7w hfx
 go_cut [] (fun wx => ∃ Vx,Hid (RSAt E G (entM r i (sortI (allS s))) Vx wx)∧Hid (KX E (fun g=>g=E.vi) W3 wx))
 case first =>
  cases i with
  | false =>
   go_wp2_with fail
   go_meet
   exact⟨V,by have:=HR3.out;rw[← HNX.out]at this;exact kH this,kH (KX.refl _ _ _)⟩
  | true =>
   have hbz:E.base≤W3.heap.size:=Nat.le_trans HBASE.out HK3.out.size;have hall:=all_any E.base s p ms W3.drew (ScAt.below ((Below.refl _ W3).drew) HS3.out) (by have:=HRB.out.all_;have:=HNX.out;omega);have HALL:=kH hall
   have hKS:∀ w':World,Since (fun g=>g=E.vi) W3 w'→w'.cell? ⟨E.rp,5,none⟩=some (.map (some E.vi))∧w'.cell? ⟨w.heap.size,0,none⟩=some (.pointer (some ⟨E.rp,0,none⟩)):=fun w' hw=>by
    have nm:∀ {g:Nat} {t:TypeId} {cs:Array Value},Blk W3 g t cs→g≠E.vi:=fun hb e=>by
     obtain⟨es,ck,ho⟩:=HR3.out.vi.isMap;subst e;have:W3.heap[_]? = some (Obj.cells _ _ (0,0)):=hb;rw[ho]at this
     cases this
    exact⟨(HR3.out.blk.since hw (nm HR3.out.blk)).cell 5,(HP3.out.since hw (nm HP3.out)).cell 0⟩
   have HKS:=kH hKS;have hs0:Since (fun g=>g=E.vi) W3 W3.drew:=(Since.refl _ W3).drew
   have hvn:(nx:Int) ∉ r.vis.map (·.1):=fun hm=>by
    obtain⟨y,hy,he⟩:=List.mem_map.1 hm;have:=HRB.out.vis y hy;have:=HNX.out;omega
   have HVN:=kH hvn;clear hall hKS hvn
   go_wp2_with fail
   go_region_held3 (fun w'=>w'.cell? ⟨E.rp,5,none⟩=some (.map (some E.vi))∧w'.cell? ⟨w.heap.size,0,none⟩=some (.pointer (some ⟨E.rp,0,none⟩))) (exact HKS.out _ (by assumption)) ((go_at_call 145;refine HALL.out.mono ?_;rintro e5 w5 ⟨v5,rfl,ho5,hb5⟩;have hs5:=hs0.below hb5;obtain⟨w6,hrun,hm6,hg6,hz6⟩:=run_mapUpdate_am (P:=Tryz.prog) (KK:=intK) (t:=72) (kt:=3) (et:=28) Tryz.underlying72 Tryz.underlying3 ((AMap.drew HR3.out.vi).beh hb5) (nx:Int) v5;change (Instr.mapUpdate 72 (.map (some E.vi)) (Value.int .i64 (nx:Int)) v5).run Tryz.prog w5=_ at hrun;have hs6:Since (fun g=>g=E.vi) w5 w6:=(Since.refl (fun g=>g=E.vi) w5).grown hg6 (fun k hk=>by cases hk;exact .inl rfl);have hs7:=hs5.trans hs6))
   have hlen:(sortI (allS s)).length=(allS s).length:=List.length_mergeSort _;have hb35:Below W3.heap.size W3 w5:=((Below.refl _ W3).drew).trans hb5;have hnote:=HR3.out.noteVis hbz hb35 (nx:Int) (sortI (allS s)) v5 (by rw[hlen];exact ho5) HVN.out (fun g=>g=E.vi) rfl hm6 hs6;have HNOTE:=kH hnote;clear hnote hs5 hs6 hs7 hz6 hm6 hb35 hb5 ho5 hs0 hrun hg6
   go_wp2_with fail
   go_meet
   exact⟨_,by have:=HNOTE.out.1;rw[← HNX.out]at this;exact kH this,kH HNOTE.out.2⟩
 case rest =>
  obtain⟨Vx,HRX,HKX⟩:=hcut;have HKW:Hid (KX E (fun g=>g=E.vi) w wc):=kH ((HK3.out.mono (fun _ hf=>hf.elim)).trans HKX.out (fun g hg=>.inl hg));have HV:Hid (VW E G B ⟨kids,20,x,a,e,A,nk,c,w.heap.size+1,w.heap.size⟩ w (fun g=>g=E.vi∨ms.head? = some g) (entM r i (sortI (allS s))) Vx s p ms wc):=kH ⟨HRX.out,ScAt.kx HKX.out HR3.out.notScope HS3.out (fun m hm e=>(hsep.apart m hm).2.2.2 e),HR3.out.node_at HKX.out HN3.out,HR3.out.ptr_at HKX.out HP3.out,HKW.out.mono (fun _ h=>.inl h),KidsAt.below ((KX.low HKW.out HBASE.out).mono hB) (Nat.le_refl _) _ _ _ HK.out,Nat.le_trans HBASE.out (KX.low HKW.out HBASE.out).size,hB⟩
  have hlk:=fun q=>lookupOk_lay (wc.drewN q) E.g G.globals (AMap.drewN HRX.out.gl q) x
  obtain⟨gi,hgi⟩:∃ q,(lookL G.globals x).getD 0=q:=⟨_,rfl⟩
  obtain⟨gb,hgb⟩:∃ q,(lookL G.globals x).isSome=q:=⟨_,rfl⟩
  rw[hgi,hgb]at hlk;obtain⟨⟨q0,lp⟩,⟨n0,n1,n2,n3,n4,ln⟩,⟨c0,c1,c2,c8,lr⟩⟩:=HV.out.cells;have HGI:=kH hgi;have HGB:=kH hgb
  have hD:(entM r i (sortI (allS s))).ds.length≤1000000:=by show r.ds.length≤_;have:=HRB.out.ds;have:=HNX.out;omega
  have hP:(entM r i (sortI (allS s))).probs.length≤1000000:=by show r.probs.length≤_;have:=HRB.out.probs;have:=HNX.out;omega
  have hU:nx < (entM r i (sortI (allS s))).uses.length:=by show nx < r.uses.length;have h1:=HRB.out.room;have h2:=HNX.out;rw[countM]at h1;omega
  have HD:=kH hD;have HPR:=kH hP;have HU:=kH hU
  have hqn:∀ u:RS,u.next=r.next+1→u.next≤r.next+1+countsM ((Tree.node 20 x a e kids).kids.take 0):=fun u hu=>by rw[hu];exact Nat.le_add_right _ _
  have HQN:=kH hqn;clear hgi hgb c5 p0 lr3 lp3 hqn hD hP hU c8
  obtain⟨tq,htq⟩:∃ tq,findS s x=tq:=⟨_,rfl⟩
  have HTQ:=kH htq
  have hQ2:visitsM G i kids 0 nk s (useM (entM r i (sortI (allS s))) nx (Tree.node 20 x a e kids) tq)=Q:=by
   rw[← HQ.out,HNK.out,← htq,← HNX.out];rfl
  have HQ2:=kH hQ2;have HSL:Hid (Slow r (useM (entM r i (sortI (allS s))) nx (Tree.node 20 x a e kids) tq)):=kH (by have:=slow_steps.useM_ r i (sortI (allS s)) (Tree.node 20 x a e kids) tq;rw[HNX.out]at this;exact this);have HNE:Hid ((useM (entM r i (sortI (allS s))) nx (Tree.node 20 x a e kids) tq).next=r.next+1):=kH (by cases tq <;> rfl);clear hQ2
  have hfind:=fun q=>find_any E.base x (wc.drewN q) s p ms ((HV.out.drewN q).S)
  have huse:=fun q=>(HV.out.drewN q).use_ (Tree.node 20 x a e kids) ⟨rfl,rfl,rfl,rfl,rfl⟩ HNK.out HPR.out nx HU.out tq (tq.getD 0) (fun k hk=>by rw[hk];rfl)
  rw[htq]at hfind;have HF:=kH hfind;have HUS:=kH huse;clear hfind huse htq
  go_wp2_with fail
  go_quiet (fail)
  go_wp2_with fail
  refine(HF.out _).mono ?_;rintro e7 w7 ⟨rfl,hw7⟩;subst hw7
  go_wp2_with fail
  refine(HUS.out _).mono ?_;rintro e8 w8 ⟨rfl,V8,h8⟩;obtain⟨⟨q8,lq8⟩,⟨-,-,-,-,n8,ln8⟩,-⟩:=h8.cells;have hcall:=h8.kids HIH.out i 0 nk nk (by omega) HNK.out (by show 0+nk≤nk;omega) HCAP.out HVK.out (HRB.out.kids (t:=(Tree.node 20 x a e kids)) HSL.out (Nat.add_le_add_left HSL.out.next _) (HQN.out _ HNE.out)) hsep (fun g hg=>.inl hg);rw[HQ2.out]at hcall;have HC:=kH hcall;clear hcall h8
  go_wp2_with fail
  refine HC.out.mono ?_;rintro e10 w10 ⟨rfl,-,V10,h10⟩;have HE:Hid (∃ V',RSAt E G Q.1 V' w10∧ScAt w10 E.base p Q.2 ms∧KX E (fun g=>g=E.vi∨ms.head? = some g) w w10):=kH h10.end_;clear h10 HC q8 n8
  go_wp2_with fail
  go_end0
  exact⟨rfl,HE.out⟩
end Go.Proofs.YtoepemlnlpamlaaGreat
namespace Go.Proofs.YtoepemlnlpamlaaGreat
set_option maxRecDepth 100000
set_option maxHeartbeats 4000000
open Go.RowKit
theorem visit_call (E:RC) (G:Glob) (B:Nat) (hB:B≤E.base) (x:ByteArray) (a e:Int) (kids:List Tree) (hih:∀ k ∈ kids,VisitC E G B k):VisitC E G B (.node 27 x a e kids):=by
 intro i s p ms r V w A c h hs hsep hk hcap hbase hv hrb
 obtain⟨nk,hnk⟩:∃ q,kids.length=q:=⟨_,rfl⟩
 have hvk:VOks s.isEmpty kids=true:=by
  rw[VOk,if_neg (by decide),if_neg (by decide),if_neg (by decide)]at hv;exact hv
 have hq:visitM G i (Tree.node 27 x a e kids) s r=visitsM G i kids 0 kids.length s (useN G s r (entM r i (sortI (allS s))) (Tree.node 27 x a e kids)):=by
  rw[visitM_eq]
  repeat (rw[if_neg (by decide)])
 rw[hq]
 obtain⟨Q,hQ⟩:∃ Q,visitsM G i kids 0 kids.length s (useN G s r (entM r i (sortI (allS s))) (Tree.node 27 x a e kids))=Q:=⟨_,rfl⟩
 rw[hQ];have HQ:=kH hQ;clear hq hQ;unfold nodeV
 have hfive:(Tree.node 27 x a e kids).kind=27∧(Tree.node 27 x a e kids).text=x∧(Tree.node 27 x a e kids).at_=a∧(Tree.node 27 x a e kids).end_=e∧(Tree.node 27 x a e kids).kids=kids:=⟨rfl,rfl,rfl,rfl,rfl⟩
 rw[hfive.1,hfive.2.1,hfive.2.2.1,hfive.2.2.2.1,hfive.2.2.2.2,hnk];rw[hfive.2.2.2.2]at hk hcap;rw[hnk]at hcap
 obtain⟨nx,hnx⟩:∃ q,r.next=q:=⟨_,rfl⟩
 have hnb:nx≤1000000:=by have:=hrb.room;have:=hrb.most;omega
 have hnkb:nk≤1000000:=by have h1:=hrb.room;have h2:=hrb.most;have h3:=counts_len kids;rw[countM]at h1;omega
 have c7w:w.cell? ⟨E.rp,7,none⟩=some (.int .i64 (nx:Int)):=by rw[← hnx];exact h.blk.cell 7
 have hrw:=h.blk.lt;have hwn:IntKind.i64.wrap ((nx:Int)+1)=(nx:Int)+1:=IntWalk.i64_in _ (by omega);have hfx:=h.blk.frozen 7;have H:=kH h;have HS:=kH hs;have HK:=kH hk;have HRB:=kH hrb;have HNX:=kH hnx;have HNK:=kH hnk;have HVK:=kH hvk;have HIH:=kH hih;have HCAP:=kH hcap;have HBASE:=kH hbase;clear h hs hk hrb hnx hnk hvk hih hv hfive hcap hbase
 go_enter Tryz.func79,Tryz.ntmps79
 go_upto_if 32 with fail
 generalize hW3:(((w.setCell ⟨E.rp,7,none⟩ (.int .i64 ((nx:Int)+1))).alloc (.cells #[.pointer (some ⟨E.rp,0,none⟩)] 68)).alloc (.cells #[.int .i64 27,.string x,.int .i64 a,.int .i64 e,.slice A nk c] 24))=W3
 obtain⟨hr3,hk3⟩:=H.out.setNext (nx+1) (fun _=>False)
 have hbW:Below w.heap.size (w.setCell ⟨E.rp,7,none⟩ (.int .i64 ((nx:Int)+1))) W3:=by
  rw[← hW3];have h1:=below_alloc (w.setCell ⟨E.rp,7,none⟩ (.int .i64 ((nx:Int)+1))) (.cells #[.pointer (some ⟨E.rp,0,none⟩)] 68);have h2:=below_alloc ((w.setCell ⟨E.rp,7,none⟩ (.int .i64 ((nx:Int)+1))).alloc (.cells #[.pointer (some ⟨E.rp,0,none⟩)] 68)) (.cells #[.int .i64 27,.string x,.int .i64 a,.int .i64 e,.slice A nk c] 24);have h3:=h1.trans (h2.mono (by simp))
  simpa using h3
 have hsz3:W3.heap.size=w.heap.size+2:=by rw[← hW3];simp
 have hn3:Blk W3 (w.heap.size+1) 24 #[.int .i64 27,.string x,.int .i64 a,.int .i64 e,.slice A nk c]:=by
  have:=Blk.new ((w.setCell ⟨E.rp,7,none⟩ (.int .i64 ((nx:Int)+1))).alloc (.cells #[.pointer (some ⟨E.rp,0,none⟩)] 68)) 24 #[.int .i64 27,.string x,.int .i64 a,.int .i64 e,.slice A nk c];rw[hW3]at this
  simpa using this
 have hp3:Blk W3 w.heap.size 68 #[.pointer (some ⟨E.rp,0,none⟩)]:=by
  have:=(Blk.new (w.setCell ⟨E.rp,7,none⟩ (.int .i64 ((nx:Int)+1))) 68 #[.pointer (some ⟨E.rp,0,none⟩)]).alloc (.cells #[.int .i64 27,.string x,.int .i64 a,.int .i64 e,.slice A nk c] 24);rw[hW3]at this
  simpa using this
 have HR3:Hid (RSAt E G { r with next:=nx+1 } V W3):=kH (hr3.below (by simpa using hbW));have HK3:Hid (KX E (fun _=>False) w W3):=kH (hk3.trans (KX.of_below (M:=fun _=>False) (by simpa using hbW)) (fun g hg=>.inl hg));have HS3:Hid (ScAt W3 E.base p s ms):=kH (ScAt.kx HK3.out H.out.notScope HS.out (fun _ _ h=>h));have HN3:=kH hn3;have HP3:=kH hp3;have HSZ3:=kH hsz3;have c5:W3.cell? ⟨E.rp,5,none⟩=some (.map (some E.vi)):=HR3.out.blk.cell 5;have p0:=hp3.cell 0;have lr3:=HR3.out.blk.lt;have lp3:=hp3.lt;clear hW3 hr3 hk3 hbW hn3 hp3 hsz3 c7w hfx
 go_cut [] (fun wx => ∃ Vx,Hid (RSAt E G (entM r i (sortI (allS s))) Vx wx)∧Hid (KX E (fun g=>g=E.vi) W3 wx))
 case first =>
  cases i with
  | false =>
   go_wp2_with fail
   go_meet
   exact⟨V,by have:=HR3.out;rw[← HNX.out]at this;exact kH this,kH (KX.refl _ _ _)⟩
  | true =>
   have hbz:E.base≤W3.heap.size:=Nat.le_trans HBASE.out HK3.out.size;have hall:=all_any E.base s p ms W3.drew (ScAt.below ((Below.refl _ W3).drew) HS3.out) (by have:=HRB.out.all_;have:=HNX.out;omega);have HALL:=kH hall
   have hKS:∀ w':World,Since (fun g=>g=E.vi) W3 w'→w'.cell? ⟨E.rp,5,none⟩=some (.map (some E.vi))∧w'.cell? ⟨w.heap.size,0,none⟩=some (.pointer (some ⟨E.rp,0,none⟩)):=fun w' hw=>by
    have nm:∀ {g:Nat} {t:TypeId} {cs:Array Value},Blk W3 g t cs→g≠E.vi:=fun hb e=>by
     obtain⟨es,ck,ho⟩:=HR3.out.vi.isMap;subst e;have:W3.heap[_]? = some (Obj.cells _ _ (0,0)):=hb;rw[ho]at this
     cases this
    exact⟨(HR3.out.blk.since hw (nm HR3.out.blk)).cell 5,(HP3.out.since hw (nm HP3.out)).cell 0⟩
   have HKS:=kH hKS;have hs0:Since (fun g=>g=E.vi) W3 W3.drew:=(Since.refl _ W3).drew
   have hvn:(nx:Int) ∉ r.vis.map (·.1):=fun hm=>by
    obtain⟨y,hy,he⟩:=List.mem_map.1 hm;have:=HRB.out.vis y hy;have:=HNX.out;omega
   have HVN:=kH hvn;clear hall hKS hvn
   go_wp2_with fail
   go_region_held3 (fun w'=>w'.cell? ⟨E.rp,5,none⟩=some (.map (some E.vi))∧w'.cell? ⟨w.heap.size,0,none⟩=some (.pointer (some ⟨E.rp,0,none⟩))) (exact HKS.out _ (by assumption)) ((go_at_call 145;refine HALL.out.mono ?_;rintro e5 w5 ⟨v5,rfl,ho5,hb5⟩;have hs5:=hs0.below hb5;obtain⟨w6,hrun,hm6,hg6,hz6⟩:=run_mapUpdate_am (P:=Tryz.prog) (KK:=intK) (t:=72) (kt:=3) (et:=28) Tryz.underlying72 Tryz.underlying3 ((AMap.drew HR3.out.vi).beh hb5) (nx:Int) v5;change (Instr.mapUpdate 72 (.map (some E.vi)) (Value.int .i64 (nx:Int)) v5).run Tryz.prog w5=_ at hrun;have hs6:Since (fun g=>g=E.vi) w5 w6:=(Since.refl (fun g=>g=E.vi) w5).grown hg6 (fun k hk=>by cases hk;exact .inl rfl);have hs7:=hs5.trans hs6))
   have hlen:(sortI (allS s)).length=(allS s).length:=List.length_mergeSort _;have hb35:Below W3.heap.size W3 w5:=((Below.refl _ W3).drew).trans hb5;have hnote:=HR3.out.noteVis hbz hb35 (nx:Int) (sortI (allS s)) v5 (by rw[hlen];exact ho5) HVN.out (fun g=>g=E.vi) rfl hm6 hs6;have HNOTE:=kH hnote;clear hnote hs5 hs6 hs7 hz6 hm6 hb35 hb5 ho5 hs0 hrun hg6
   go_wp2_with fail
   go_meet
   exact⟨_,by have:=HNOTE.out.1;rw[← HNX.out]at this;exact kH this,kH HNOTE.out.2⟩
 case rest =>
  obtain⟨Vx,HRX,HKX⟩:=hcut;have HKW:Hid (KX E (fun g=>g=E.vi) w wc):=kH ((HK3.out.mono (fun _ hf=>hf.elim)).trans HKX.out (fun g hg=>.inl hg));have HV:Hid (VW E G B ⟨kids,27,x,a,e,A,nk,c,w.heap.size+1,w.heap.size⟩ w (fun g=>g=E.vi∨ms.head? = some g) (entM r i (sortI (allS s))) Vx s p ms wc):=kH ⟨HRX.out,ScAt.kx HKX.out HR3.out.notScope HS3.out (fun m hm e=>(hsep.apart m hm).2.2.2 e),HR3.out.node_at HKX.out HN3.out,HR3.out.ptr_at HKX.out HP3.out,HKW.out.mono (fun _ h=>.inl h),KidsAt.below ((KX.low HKW.out HBASE.out).mono hB) (Nat.le_refl _) _ _ _ HK.out,Nat.le_trans HBASE.out (KX.low HKW.out HBASE.out).size,hB⟩
  have hlk:=fun q=>lookupOk_lay (wc.drewN q) E.g G.globals (AMap.drewN HRX.out.gl q) x
  obtain⟨gi,hgi⟩:∃ q,(lookL G.globals x).getD 0=q:=⟨_,rfl⟩
  obtain⟨gb,hgb⟩:∃ q,(lookL G.globals x).isSome=q:=⟨_,rfl⟩
  rw[hgi,hgb]at hlk;obtain⟨⟨q0,lp⟩,⟨n0,n1,n2,n3,n4,ln⟩,⟨c0,c1,c2,c8,lr⟩⟩:=HV.out.cells;have HGI:=kH hgi;have HGB:=kH hgb
  have hD:(entM r i (sortI (allS s))).ds.length≤1000000:=by show r.ds.length≤_;have:=HRB.out.ds;have:=HNX.out;omega
  have hP:(entM r i (sortI (allS s))).probs.length≤1000000:=by show r.probs.length≤_;have:=HRB.out.probs;have:=HNX.out;omega
  have hU:nx < (entM r i (sortI (allS s))).uses.length:=by show nx < r.uses.length;have h1:=HRB.out.room;have h2:=HNX.out;rw[countM]at h1;omega
  have HD:=kH hD;have HPR:=kH hP;have HU:=kH hU
  have hqn:∀ u:RS,u.next=r.next+1→u.next≤r.next+1+countsM ((Tree.node 27 x a e kids).kids.take 0):=fun u hu=>by rw[hu];exact Nat.le_add_right _ _
  have HQN:=kH hqn;clear hgi hgb c5 p0 lr3 lp3 hqn hD hP hU c8
  obtain⟨tq,htq⟩:∃ tq,layM G.globals x=tq:=⟨_,rfl⟩
  have HTQ:=kH htq
  have hQ2:visitsM G i kids 0 nk s (useM (entM r i (sortI (allS s))) nx (Tree.node 27 x a e kids) tq)=Q:=by
   rw[← HQ.out,HNK.out,← htq,← HNX.out];rfl
  have HQ2:=kH hQ2;have HSL:Hid (Slow r (useM (entM r i (sortI (allS s))) nx (Tree.node 27 x a e kids) tq)):=kH (by have:=slow_steps.useM_ r i (sortI (allS s)) (Tree.node 27 x a e kids) tq;rw[HNX.out]at this;exact this);have HNE:Hid ((useM (entM r i (sortI (allS s))) nx (Tree.node 27 x a e kids) tq).next=r.next+1):=kH (by cases tq <;> rfl);clear hQ2
  have huse:=fun q=>(HV.out.drewN q).use_ (Tree.node 27 x a e kids) ⟨rfl,rfl,rfl,rfl,rfl⟩ HNK.out HPR.out nx HU.out tq (tq.getD 0) (fun k hk=>by rw[hk];rfl)
  have e1:tq.getD 0=gi:=by rw[← HGI.out,← htq]
  have e2:tq.isSome=gb:=by rw[← HGB.out,← htq]
  rw[e1,e2]at huse;have HUS:=kH huse;clear huse htq e1 e2
  go_wp2_with fail
  go_quiet (fail)
  go_wp2_with fail
  refine(HUS.out _).mono ?_;rintro e8 w8 ⟨rfl,V8,h8⟩;obtain⟨⟨q8,lq8⟩,⟨-,-,-,-,n8,ln8⟩,-⟩:=h8.cells;have hcall:=h8.kids HIH.out i 0 nk nk (by omega) HNK.out (by show 0+nk≤nk;omega) HCAP.out HVK.out (HRB.out.kids (t:=(Tree.node 27 x a e kids)) HSL.out (Nat.add_le_add_left HSL.out.next _) (HQN.out _ HNE.out)) hsep (fun g hg=>.inl hg);rw[HQ2.out]at hcall;have HC:=kH hcall;clear hcall h8
  go_wp2_with fail
  refine HC.out.mono ?_;rintro e10 w10 ⟨rfl,-,V10,h10⟩;have HE:Hid (∃ V',RSAt E G Q.1 V' w10∧ScAt w10 E.base p Q.2 ms∧KX E (fun g=>g=E.vi∨ms.head? = some g) w w10):=kH h10.end_;clear h10 HC q8 n8
  go_wp2_with fail
  go_end0
  exact⟨rfl,HE.out⟩
end Go.Proofs.YtoepemlnlpamlaaGreat
namespace Go.Proofs.YtoepemlnlpamlaaGreat
set_option maxRecDepth 100000
set_option maxHeartbeats 4000000
open Go.RowKit
theorem visit_member (E:RC) (G:Glob) (B:Nat) (hB:B≤E.base) (x:ByteArray) (a e:Int) (kids:List Tree) (hih:∀ k ∈ kids,VisitC E G B k):VisitC E G B (.node 22 x a e kids):=by
 intro i s p ms r V w A c h hs hsep hk hcap hbase hv hrb
 obtain⟨nk,hnk⟩:∃ q,kids.length=q:=⟨_,rfl⟩
 have hvk:VOks s.isEmpty kids=true:=by
  rw[VOk,if_neg (by decide),if_neg (by decide),if_neg (by decide)]at hv;exact hv
 have hq:visitM G i (Tree.node 22 x a e kids) s r=visitsM G i kids 0 kids.length s (useN G s r (entM r i (sortI (allS s))) (Tree.node 22 x a e kids)):=by
  rw[visitM_eq]
  repeat (rw[if_neg (by decide)])
 rw[hq]
 obtain⟨Q,hQ⟩:∃ Q,visitsM G i kids 0 kids.length s (useN G s r (entM r i (sortI (allS s))) (Tree.node 22 x a e kids))=Q:=⟨_,rfl⟩
 rw[hQ];have HQ:=kH hQ;clear hq hQ;unfold nodeV
 have hfive:(Tree.node 22 x a e kids).kind=22∧(Tree.node 22 x a e kids).text=x∧(Tree.node 22 x a e kids).at_=a∧(Tree.node 22 x a e kids).end_=e∧(Tree.node 22 x a e kids).kids=kids:=⟨rfl,rfl,rfl,rfl,rfl⟩
 rw[hfive.1,hfive.2.1,hfive.2.2.1,hfive.2.2.2.1,hfive.2.2.2.2,hnk];rw[hfive.2.2.2.2]at hk hcap;rw[hnk]at hcap
 obtain⟨nx,hnx⟩:∃ q,r.next=q:=⟨_,rfl⟩
 have hnb:nx≤1000000:=by have:=hrb.room;have:=hrb.most;omega
 have hnkb:nk≤1000000:=by have h1:=hrb.room;have h2:=hrb.most;have h3:=counts_len kids;rw[countM]at h1;omega
 have c7w:w.cell? ⟨E.rp,7,none⟩=some (.int .i64 (nx:Int)):=by rw[← hnx];exact h.blk.cell 7
 have hrw:=h.blk.lt;have hwn:IntKind.i64.wrap ((nx:Int)+1)=(nx:Int)+1:=IntWalk.i64_in _ (by omega);have hfx:=h.blk.frozen 7;have H:=kH h;have HS:=kH hs;have HK:=kH hk;have HRB:=kH hrb;have HNX:=kH hnx;have HNK:=kH hnk;have HVK:=kH hvk;have HIH:=kH hih;have HCAP:=kH hcap;have HBASE:=kH hbase;clear h hs hk hrb hnx hnk hvk hih hv hfive hcap hbase
 go_enter Tryz.func79,Tryz.ntmps79
 go_upto_if 32 with fail
 generalize hW3:(((w.setCell ⟨E.rp,7,none⟩ (.int .i64 ((nx:Int)+1))).alloc (.cells #[.pointer (some ⟨E.rp,0,none⟩)] 68)).alloc (.cells #[.int .i64 22,.string x,.int .i64 a,.int .i64 e,.slice A nk c] 24))=W3
 obtain⟨hr3,hk3⟩:=H.out.setNext (nx+1) (fun _=>False)
 have hbW:Below w.heap.size (w.setCell ⟨E.rp,7,none⟩ (.int .i64 ((nx:Int)+1))) W3:=by
  rw[← hW3];have h1:=below_alloc (w.setCell ⟨E.rp,7,none⟩ (.int .i64 ((nx:Int)+1))) (.cells #[.pointer (some ⟨E.rp,0,none⟩)] 68);have h2:=below_alloc ((w.setCell ⟨E.rp,7,none⟩ (.int .i64 ((nx:Int)+1))).alloc (.cells #[.pointer (some ⟨E.rp,0,none⟩)] 68)) (.cells #[.int .i64 22,.string x,.int .i64 a,.int .i64 e,.slice A nk c] 24);have h3:=h1.trans (h2.mono (by simp))
  simpa using h3
 have hsz3:W3.heap.size=w.heap.size+2:=by rw[← hW3];simp
 have hn3:Blk W3 (w.heap.size+1) 24 #[.int .i64 22,.string x,.int .i64 a,.int .i64 e,.slice A nk c]:=by
  have:=Blk.new ((w.setCell ⟨E.rp,7,none⟩ (.int .i64 ((nx:Int)+1))).alloc (.cells #[.pointer (some ⟨E.rp,0,none⟩)] 68)) 24 #[.int .i64 22,.string x,.int .i64 a,.int .i64 e,.slice A nk c];rw[hW3]at this
  simpa using this
 have hp3:Blk W3 w.heap.size 68 #[.pointer (some ⟨E.rp,0,none⟩)]:=by
  have:=(Blk.new (w.setCell ⟨E.rp,7,none⟩ (.int .i64 ((nx:Int)+1))) 68 #[.pointer (some ⟨E.rp,0,none⟩)]).alloc (.cells #[.int .i64 22,.string x,.int .i64 a,.int .i64 e,.slice A nk c] 24);rw[hW3]at this
  simpa using this
 have HR3:Hid (RSAt E G { r with next:=nx+1 } V W3):=kH (hr3.below (by simpa using hbW));have HK3:Hid (KX E (fun _=>False) w W3):=kH (hk3.trans (KX.of_below (M:=fun _=>False) (by simpa using hbW)) (fun g hg=>.inl hg));have HS3:Hid (ScAt W3 E.base p s ms):=kH (ScAt.kx HK3.out H.out.notScope HS.out (fun _ _ h=>h));have HN3:=kH hn3;have HP3:=kH hp3;have HSZ3:=kH hsz3;have c5:W3.cell? ⟨E.rp,5,none⟩=some (.map (some E.vi)):=HR3.out.blk.cell 5;have p0:=hp3.cell 0;have lr3:=HR3.out.blk.lt;have lp3:=hp3.lt;clear hW3 hr3 hk3 hbW hn3 hp3 hsz3 c7w hfx
 go_cut [] (fun wx => ∃ Vx,Hid (RSAt E G (entM r i (sortI (allS s))) Vx wx)∧Hid (KX E (fun g=>g=E.vi) W3 wx))
 case first =>
  cases i with
  | false =>
   go_wp2_with fail
   go_meet
   exact⟨V,by have:=HR3.out;rw[← HNX.out]at this;exact kH this,kH (KX.refl _ _ _)⟩
  | true =>
   have hbz:E.base≤W3.heap.size:=Nat.le_trans HBASE.out HK3.out.size;have hall:=all_any E.base s p ms W3.drew (ScAt.below ((Below.refl _ W3).drew) HS3.out) (by have:=HRB.out.all_;have:=HNX.out;omega);have HALL:=kH hall
   have hKS:∀ w':World,Since (fun g=>g=E.vi) W3 w'→w'.cell? ⟨E.rp,5,none⟩=some (.map (some E.vi))∧w'.cell? ⟨w.heap.size,0,none⟩=some (.pointer (some ⟨E.rp,0,none⟩)):=fun w' hw=>by
    have nm:∀ {g:Nat} {t:TypeId} {cs:Array Value},Blk W3 g t cs→g≠E.vi:=fun hb e=>by
     obtain⟨es,ck,ho⟩:=HR3.out.vi.isMap;subst e;have:W3.heap[_]? = some (Obj.cells _ _ (0,0)):=hb;rw[ho]at this
     cases this
    exact⟨(HR3.out.blk.since hw (nm HR3.out.blk)).cell 5,(HP3.out.since hw (nm HP3.out)).cell 0⟩
   have HKS:=kH hKS;have hs0:Since (fun g=>g=E.vi) W3 W3.drew:=(Since.refl _ W3).drew
   have hvn:(nx:Int) ∉ r.vis.map (·.1):=fun hm=>by
    obtain⟨y,hy,he⟩:=List.mem_map.1 hm;have:=HRB.out.vis y hy;have:=HNX.out;omega
   have HVN:=kH hvn;clear hall hKS hvn
   go_wp2_with fail
   go_region_held3 (fun w'=>w'.cell? ⟨E.rp,5,none⟩=some (.map (some E.vi))∧w'.cell? ⟨w.heap.size,0,none⟩=some (.pointer (some ⟨E.rp,0,none⟩))) (exact HKS.out _ (by assumption)) ((go_at_call 145;refine HALL.out.mono ?_;rintro e5 w5 ⟨v5,rfl,ho5,hb5⟩;have hs5:=hs0.below hb5;obtain⟨w6,hrun,hm6,hg6,hz6⟩:=run_mapUpdate_am (P:=Tryz.prog) (KK:=intK) (t:=72) (kt:=3) (et:=28) Tryz.underlying72 Tryz.underlying3 ((AMap.drew HR3.out.vi).beh hb5) (nx:Int) v5;change (Instr.mapUpdate 72 (.map (some E.vi)) (Value.int .i64 (nx:Int)) v5).run Tryz.prog w5=_ at hrun;have hs6:Since (fun g=>g=E.vi) w5 w6:=(Since.refl (fun g=>g=E.vi) w5).grown hg6 (fun k hk=>by cases hk;exact .inl rfl);have hs7:=hs5.trans hs6))
   have hlen:(sortI (allS s)).length=(allS s).length:=List.length_mergeSort _;have hb35:Below W3.heap.size W3 w5:=((Below.refl _ W3).drew).trans hb5;have hnote:=HR3.out.noteVis hbz hb35 (nx:Int) (sortI (allS s)) v5 (by rw[hlen];exact ho5) HVN.out (fun g=>g=E.vi) rfl hm6 hs6;have HNOTE:=kH hnote;clear hnote hs5 hs6 hs7 hz6 hm6 hb35 hb5 ho5 hs0 hrun hg6
   go_wp2_with fail
   go_meet
   exact⟨_,by have:=HNOTE.out.1;rw[← HNX.out]at this;exact kH this,kH HNOTE.out.2⟩
 case rest =>
  obtain⟨Vx,HRX,HKX⟩:=hcut;have HKW:Hid (KX E (fun g=>g=E.vi) w wc):=kH ((HK3.out.mono (fun _ hf=>hf.elim)).trans HKX.out (fun g hg=>.inl hg));have HV:Hid (VW E G B ⟨kids,22,x,a,e,A,nk,c,w.heap.size+1,w.heap.size⟩ w (fun g=>g=E.vi∨ms.head? = some g) (entM r i (sortI (allS s))) Vx s p ms wc):=kH ⟨HRX.out,ScAt.kx HKX.out HR3.out.notScope HS3.out (fun m hm e=>(hsep.apart m hm).2.2.2 e),HR3.out.node_at HKX.out HN3.out,HR3.out.ptr_at HKX.out HP3.out,HKW.out.mono (fun _ h=>.inl h),KidsAt.below ((KX.low HKW.out HBASE.out).mono hB) (Nat.le_refl _) _ _ _ HK.out,Nat.le_trans HBASE.out (KX.low HKW.out HBASE.out).size,hB⟩
  have hlk:=fun q=>lookupOk_lay (wc.drewN q) E.g G.globals (AMap.drewN HRX.out.gl q) x
  obtain⟨gi,hgi⟩:∃ q,(lookL G.globals x).getD 0=q:=⟨_,rfl⟩
  obtain⟨gb,hgb⟩:∃ q,(lookL G.globals x).isSome=q:=⟨_,rfl⟩
  rw[hgi,hgb]at hlk;obtain⟨⟨q0,lp⟩,⟨n0,n1,n2,n3,n4,ln⟩,⟨c0,c1,c2,c8,lr⟩⟩:=HV.out.cells;have HGI:=kH hgi;have HGB:=kH hgb
  have hD:(entM r i (sortI (allS s))).ds.length≤1000000:=by show r.ds.length≤_;have:=HRB.out.ds;have:=HNX.out;omega
  have hP:(entM r i (sortI (allS s))).probs.length≤1000000:=by show r.probs.length≤_;have:=HRB.out.probs;have:=HNX.out;omega
  have hU:nx < (entM r i (sortI (allS s))).uses.length:=by show nx < r.uses.length;have h1:=HRB.out.room;have h2:=HNX.out;rw[countM]at h1;omega
  have HD:=kH hD;have HPR:=kH hP;have HU:=kH hU
  have hqn:∀ u:RS,u.next=r.next+1→u.next≤r.next+1+countsM ((Tree.node 22 x a e kids).kids.take 0):=fun u hu=>by rw[hu];exact Nat.le_add_right _ _
  have HQN:=kH hqn;clear hgi hgb c5 p0 lr3 lp3 hqn hD hP hU c8
  obtain⟨tq,htq⟩:∃ tq,layM G.fields x=tq:=⟨_,rfl⟩
  have HTQ:=kH htq
  have hQ2:visitsM G i kids 0 nk s (useM (entM r i (sortI (allS s))) nx (Tree.node 22 x a e kids) tq)=Q:=by
   rw[← HQ.out,HNK.out,← htq,← HNX.out];rfl
  have HQ2:=kH hQ2;have HSL:Hid (Slow r (useM (entM r i (sortI (allS s))) nx (Tree.node 22 x a e kids) tq)):=kH (by have:=slow_steps.useM_ r i (sortI (allS s)) (Tree.node 22 x a e kids) tq;rw[HNX.out]at this;exact this);have HNE:Hid ((useM (entM r i (sortI (allS s))) nx (Tree.node 22 x a e kids) tq).next=r.next+1):=kH (by cases tq <;> rfl);clear hQ2
  have huse:=fun q=>(HV.out.drewN q).use_ (Tree.node 22 x a e kids) ⟨rfl,rfl,rfl,rfl,rfl⟩ HNK.out HPR.out nx HU.out tq (tq.getD 0) (fun k hk=>by rw[hk];rfl)
  have hlf:=fun q q'=>lookupOk_lay ((wc.drewN q).drewN q') E.f G.fields (AMap.drewN (AMap.drewN HRX.out.fl q) q') x
  have hlg:=fun q=>lookupOk_lay (wc.drewN q) E.f G.fields (AMap.drewN HRX.out.fl q) x
  rw[show lookL G.fields x=tq from htq]at hlf hlg
  obtain⟨ti,hti⟩:∃ q,tq.getD 0=q:=⟨_,rfl⟩
  obtain⟨tb,htb⟩:∃ q,tq.isSome=q:=⟨_,rfl⟩
  rw[hti,htb]at hlf hlg huse;have HUS:=kH huse;clear huse htq hti htb
  go_wp2_with fail
  go_quiet (fail)
  go_wp2_with fail
  go_quiet (fail)
  go_wp2_with fail
  refine(HUS.out _).mono ?_;rintro e8 w8 ⟨rfl,V8,h8⟩;obtain⟨⟨q8,lq8⟩,⟨-,-,-,-,n8,ln8⟩,-⟩:=h8.cells;have hcall:=h8.kids HIH.out i 0 nk nk (by omega) HNK.out (by show 0+nk≤nk;omega) HCAP.out HVK.out (HRB.out.kids (t:=(Tree.node 22 x a e kids)) HSL.out (Nat.add_le_add_left HSL.out.next _) (HQN.out _ HNE.out)) hsep (fun g hg=>.inl hg);rw[HQ2.out]at hcall;have HC:=kH hcall;clear hcall h8
  go_wp2_with fail
  refine HC.out.mono ?_;rintro e10 w10 ⟨rfl,-,V10,h10⟩;have HE:Hid (∃ V',RSAt E G Q.1 V' w10∧ScAt w10 E.base p Q.2 ms∧KX E (fun g=>g=E.vi∨ms.head? = some g) w w10):=kH h10.end_;clear h10 HC q8 n8
  go_wp2_with fail
  go_end0
  exact⟨rfl,HE.out⟩
end Go.Proofs.YtoepemlnlpamlaaGreat
namespace Go.Proofs.YtoepemlnlpamlaaGreat
set_option maxRecDepth 100000
set_option maxHeartbeats 4000000
open Go.RowKit
theorem visit_field (E:RC) (G:Glob) (B:Nat) (hB:B≤E.base) (x:ByteArray) (a e:Int) (kids:List Tree) (hih:∀ k ∈ kids,VisitC E G B k):VisitC E G B (.node 4 x a e kids):=by
 intro i s p ms r V w A c h hs hsep hk hcap hbase hv hrb
 obtain⟨nk,hnk⟩:∃ q,kids.length=q:=⟨_,rfl⟩
 have hvk:VOks s.isEmpty kids=true:=by
  rw[VOk,if_neg (by decide),if_neg (by decide),if_neg (by decide)]at hv;exact hv
 have hq:visitM G i (Tree.node 4 x a e kids) s r=visitsM G i kids 0 kids.length s (declareM (entM r i (sortI (allS s))) 1 r.next (Tree.node 4 x a e kids) (decide ((layM G.fields x).getD 0≠(r.next:Int)))):=by
  rw[visitM_eq,if_neg (by decide),if_pos rfl]
 rw[hq]
 obtain⟨Q,hQ⟩:∃ Q,visitsM G i kids 0 kids.length s (declareM (entM r i (sortI (allS s))) 1 r.next (Tree.node 4 x a e kids) (decide ((layM G.fields x).getD 0≠(r.next:Int))))=Q:=⟨_,rfl⟩
 rw[hQ];have HQ:=kH hQ;clear hq hQ;unfold nodeV
 have hfive:(Tree.node 4 x a e kids).kind=4∧(Tree.node 4 x a e kids).text=x∧(Tree.node 4 x a e kids).at_=a∧(Tree.node 4 x a e kids).end_=e∧(Tree.node 4 x a e kids).kids=kids:=⟨rfl,rfl,rfl,rfl,rfl⟩
 rw[hfive.1,hfive.2.1,hfive.2.2.1,hfive.2.2.2.1,hfive.2.2.2.2,hnk];rw[hfive.2.2.2.2]at hk hcap;rw[hnk]at hcap
 obtain⟨nx,hnx⟩:∃ q,r.next=q:=⟨_,rfl⟩
 have hnb:nx≤1000000:=by have:=hrb.room;have:=hrb.most;omega
 have hnkb:nk≤1000000:=by have h1:=hrb.room;have h2:=hrb.most;have h3:=counts_len kids;rw[countM]at h1;omega
 have c7w:w.cell? ⟨E.rp,7,none⟩=some (.int .i64 (nx:Int)):=by rw[← hnx];exact h.blk.cell 7
 have hrw:=h.blk.lt;have hwn:IntKind.i64.wrap ((nx:Int)+1)=(nx:Int)+1:=IntWalk.i64_in _ (by omega);have hfx:=h.blk.frozen 7;have H:=kH h;have HS:=kH hs;have HK:=kH hk;have HRB:=kH hrb;have HNX:=kH hnx;have HNK:=kH hnk;have HVK:=kH hvk;have HIH:=kH hih;have HCAP:=kH hcap;have HBASE:=kH hbase;clear h hs hk hrb hnx hnk hvk hih hv hfive hcap hbase
 go_enter Tryz.func79,Tryz.ntmps79
 go_upto_if 32 with fail
 generalize hW3:(((w.setCell ⟨E.rp,7,none⟩ (.int .i64 ((nx:Int)+1))).alloc (.cells #[.pointer (some ⟨E.rp,0,none⟩)] 68)).alloc (.cells #[.int .i64 4,.string x,.int .i64 a,.int .i64 e,.slice A nk c] 24))=W3
 obtain⟨hr3,hk3⟩:=H.out.setNext (nx+1) (fun _=>False)
 have hbW:Below w.heap.size (w.setCell ⟨E.rp,7,none⟩ (.int .i64 ((nx:Int)+1))) W3:=by
  rw[← hW3];have h1:=below_alloc (w.setCell ⟨E.rp,7,none⟩ (.int .i64 ((nx:Int)+1))) (.cells #[.pointer (some ⟨E.rp,0,none⟩)] 68);have h2:=below_alloc ((w.setCell ⟨E.rp,7,none⟩ (.int .i64 ((nx:Int)+1))).alloc (.cells #[.pointer (some ⟨E.rp,0,none⟩)] 68)) (.cells #[.int .i64 4,.string x,.int .i64 a,.int .i64 e,.slice A nk c] 24);have h3:=h1.trans (h2.mono (by simp))
  simpa using h3
 have hsz3:W3.heap.size=w.heap.size+2:=by rw[← hW3];simp
 have hn3:Blk W3 (w.heap.size+1) 24 #[.int .i64 4,.string x,.int .i64 a,.int .i64 e,.slice A nk c]:=by
  have:=Blk.new ((w.setCell ⟨E.rp,7,none⟩ (.int .i64 ((nx:Int)+1))).alloc (.cells #[.pointer (some ⟨E.rp,0,none⟩)] 68)) 24 #[.int .i64 4,.string x,.int .i64 a,.int .i64 e,.slice A nk c];rw[hW3]at this
  simpa using this
 have hp3:Blk W3 w.heap.size 68 #[.pointer (some ⟨E.rp,0,none⟩)]:=by
  have:=(Blk.new (w.setCell ⟨E.rp,7,none⟩ (.int .i64 ((nx:Int)+1))) 68 #[.pointer (some ⟨E.rp,0,none⟩)]).alloc (.cells #[.int .i64 4,.string x,.int .i64 a,.int .i64 e,.slice A nk c] 24);rw[hW3]at this
  simpa using this
 have HR3:Hid (RSAt E G { r with next:=nx+1 } V W3):=kH (hr3.below (by simpa using hbW));have HK3:Hid (KX E (fun _=>False) w W3):=kH (hk3.trans (KX.of_below (M:=fun _=>False) (by simpa using hbW)) (fun g hg=>.inl hg));have HS3:Hid (ScAt W3 E.base p s ms):=kH (ScAt.kx HK3.out H.out.notScope HS.out (fun _ _ h=>h));have HN3:=kH hn3;have HP3:=kH hp3;have HSZ3:=kH hsz3;have c5:W3.cell? ⟨E.rp,5,none⟩=some (.map (some E.vi)):=HR3.out.blk.cell 5;have p0:=hp3.cell 0;have lr3:=HR3.out.blk.lt;have lp3:=hp3.lt;clear hW3 hr3 hk3 hbW hn3 hp3 hsz3 c7w hfx
 go_cut [] (fun wx => ∃ Vx,Hid (RSAt E G (entM r i (sortI (allS s))) Vx wx)∧Hid (KX E (fun g=>g=E.vi) W3 wx))
 case first =>
  cases i with
  | false =>
   go_wp2_with fail
   go_meet
   exact⟨V,by have:=HR3.out;rw[← HNX.out]at this;exact kH this,kH (KX.refl _ _ _)⟩
  | true =>
   have hbz:E.base≤W3.heap.size:=Nat.le_trans HBASE.out HK3.out.size;have hall:=all_any E.base s p ms W3.drew (ScAt.below ((Below.refl _ W3).drew) HS3.out) (by have:=HRB.out.all_;have:=HNX.out;omega);have HALL:=kH hall
   have hKS:∀ w':World,Since (fun g=>g=E.vi) W3 w'→w'.cell? ⟨E.rp,5,none⟩=some (.map (some E.vi))∧w'.cell? ⟨w.heap.size,0,none⟩=some (.pointer (some ⟨E.rp,0,none⟩)):=fun w' hw=>by
    have nm:∀ {g:Nat} {t:TypeId} {cs:Array Value},Blk W3 g t cs→g≠E.vi:=fun hb e=>by
     obtain⟨es,ck,ho⟩:=HR3.out.vi.isMap;subst e;have:W3.heap[_]? = some (Obj.cells _ _ (0,0)):=hb;rw[ho]at this
     cases this
    exact⟨(HR3.out.blk.since hw (nm HR3.out.blk)).cell 5,(HP3.out.since hw (nm HP3.out)).cell 0⟩
   have HKS:=kH hKS;have hs0:Since (fun g=>g=E.vi) W3 W3.drew:=(Since.refl _ W3).drew
   have hvn:(nx:Int) ∉ r.vis.map (·.1):=fun hm=>by
    obtain⟨y,hy,he⟩:=List.mem_map.1 hm;have:=HRB.out.vis y hy;have:=HNX.out;omega
   have HVN:=kH hvn;clear hall hKS hvn
   go_wp2_with fail
   go_region_held3 (fun w'=>w'.cell? ⟨E.rp,5,none⟩=some (.map (some E.vi))∧w'.cell? ⟨w.heap.size,0,none⟩=some (.pointer (some ⟨E.rp,0,none⟩))) (exact HKS.out _ (by assumption)) ((go_at_call 145;refine HALL.out.mono ?_;rintro e5 w5 ⟨v5,rfl,ho5,hb5⟩;have hs5:=hs0.below hb5;obtain⟨w6,hrun,hm6,hg6,hz6⟩:=run_mapUpdate_am (P:=Tryz.prog) (KK:=intK) (t:=72) (kt:=3) (et:=28) Tryz.underlying72 Tryz.underlying3 ((AMap.drew HR3.out.vi).beh hb5) (nx:Int) v5;change (Instr.mapUpdate 72 (.map (some E.vi)) (Value.int .i64 (nx:Int)) v5).run Tryz.prog w5=_ at hrun;have hs6:Since (fun g=>g=E.vi) w5 w6:=(Since.refl (fun g=>g=E.vi) w5).grown hg6 (fun k hk=>by cases hk;exact .inl rfl);have hs7:=hs5.trans hs6))
   have hlen:(sortI (allS s)).length=(allS s).length:=List.length_mergeSort _;have hb35:Below W3.heap.size W3 w5:=((Below.refl _ W3).drew).trans hb5;have hnote:=HR3.out.noteVis hbz hb35 (nx:Int) (sortI (allS s)) v5 (by rw[hlen];exact ho5) HVN.out (fun g=>g=E.vi) rfl hm6 hs6;have HNOTE:=kH hnote;clear hnote hs5 hs6 hs7 hz6 hm6 hb35 hb5 ho5 hs0 hrun hg6
   go_wp2_with fail
   go_meet
   exact⟨_,by have:=HNOTE.out.1;rw[← HNX.out]at this;exact kH this,kH HNOTE.out.2⟩
 case rest =>
  obtain⟨Vx,HRX,HKX⟩:=hcut;have HKW:Hid (KX E (fun g=>g=E.vi) w wc):=kH ((HK3.out.mono (fun _ hf=>hf.elim)).trans HKX.out (fun g hg=>.inl hg));have HV:Hid (VW E G B ⟨kids,4,x,a,e,A,nk,c,w.heap.size+1,w.heap.size⟩ w (fun g=>g=E.vi∨ms.head? = some g) (entM r i (sortI (allS s))) Vx s p ms wc):=kH ⟨HRX.out,ScAt.kx HKX.out HR3.out.notScope HS3.out (fun m hm e=>(hsep.apart m hm).2.2.2 e),HR3.out.node_at HKX.out HN3.out,HR3.out.ptr_at HKX.out HP3.out,HKW.out.mono (fun _ h=>.inl h),KidsAt.below ((KX.low HKW.out HBASE.out).mono hB) (Nat.le_refl _) _ _ _ HK.out,Nat.le_trans HBASE.out (KX.low HKW.out HBASE.out).size,hB⟩
  have hlk:=fun q=>lookupOk_lay (wc.drewN q) E.g G.globals (AMap.drewN HRX.out.gl q) x
  obtain⟨gi,hgi⟩:∃ q,(lookL G.globals x).getD 0=q:=⟨_,rfl⟩
  obtain⟨gb,hgb⟩:∃ q,(lookL G.globals x).isSome=q:=⟨_,rfl⟩
  rw[hgi,hgb]at hlk;obtain⟨⟨q0,lp⟩,⟨n0,n1,n2,n3,n4,ln⟩,⟨c0,c1,c2,c8,lr⟩⟩:=HV.out.cells;have HGI:=kH hgi;have HGB:=kH hgb
  have hD:(entM r i (sortI (allS s))).ds.length≤1000000:=by show r.ds.length≤_;have:=HRB.out.ds;have:=HNX.out;omega
  have hP:(entM r i (sortI (allS s))).probs.length≤1000000:=by show r.probs.length≤_;have:=HRB.out.probs;have:=HNX.out;omega
  have hU:nx < (entM r i (sortI (allS s))).uses.length:=by show nx < r.uses.length;have h1:=HRB.out.room;have h2:=HNX.out;rw[countM]at h1;omega
  have HD:=kH hD;have HPR:=kH hP;have HU:=kH hU
  have hqn:∀ u:RS,u.next=r.next+1→u.next≤r.next+1+countsM ((Tree.node 4 x a e kids).kids.take 0):=fun u hu=>by rw[hu];exact Nat.le_add_right _ _
  have HQN:=kH hqn;clear hgi hgb c5 p0 lr3 lp3 hqn hD hP hU c8
  obtain⟨fi,hfi⟩:∃ q,(lookL G.fields x).getD 0=q:=⟨_,rfl⟩
  have hQ2:visitsM G i kids 0 nk s (declareM (entM r i (sortI (allS s))) 1 nx (Tree.node 4 x a e kids) (fi !=(nx:Int)))=Q:=by
   rw[← HQ.out,HNK.out,← HNX.out,bne_dec1,← hfi]
  have HQ2:=kH hQ2;have HSL:Hid (Slow r (declareM (entM r i (sortI (allS s))) 1 nx (Tree.node 4 x a e kids) (fi !=(nx:Int)))):=kH (by have:=slow_steps.declare r i (sortI (allS s)) 1 (Tree.node 4 x a e kids) (fi !=(nx:Int));rw[HNX.out]at this;exact this);have HNE:Hid ((declareM (entM r i (sortI (allS s))) 1 nx (Tree.node 4 x a e kids) (fi !=(nx:Int))).next=r.next+1):=kH (by have:=head_next r i (sortI (allS s)) 1 (Tree.node 4 x a e kids) (fi !=(nx:Int));rw[HNX.out]at this ⊢;exact this)
  have hKS:∀ r' V' w',VW E G B ⟨kids,4,x,a,e,A,nk,c,w.heap.size+1,w.heap.size⟩ w (fun g=>g=E.vi∨ms.head? = some g) r' V' s p ms w'→(w'.cell? ⟨w.heap.size,0,none⟩=some (.pointer (some ⟨E.rp,0,none⟩))∧w'.cell? ⟨w.heap.size+1,0,none⟩=some (.int .i64 4)∧w'.cell? ⟨w.heap.size+1,1,none⟩=some (.string x)∧w'.cell? ⟨w.heap.size+1,2,none⟩=some (.int .i64 a)∧w'.cell? ⟨w.heap.size+1,3,none⟩=some (.int .i64 e)∧w'.cell? ⟨w.heap.size+1,4,none⟩=some (.slice A nk c)∧w'.cell? ⟨E.rp,1,none⟩=some (.map (some E.f))∧(Instr.lookup 70 (.map (some E.f)) (.string x) false).run Tryz.prog w' = .ok (.int .i64 fi) w'):=fun r' V' w' hv=>by
   obtain⟨⟨y0,-⟩,⟨z0,z1,z2,z3,z4,-⟩,⟨-,d1,-,-,-⟩⟩:=hv.cells;exact⟨y0,z0,z1,z2,z3,z4,d1,by have:=lookup_lay w' E.f G.fields hv.R.fl x;rw[hfi]at this;exact this⟩
  have HKS:=kH hKS
  have hdec:=fun q al=>((HV.out.drewN q).drew).declare_ (Tree.node 4 x a e kids) ⟨rfl,rfl,rfl,rfl,rfl⟩ HNK.out HD.out HPR.out 1 nx HU.out al
  have hvq:=fun q=>(HV.out.drewN q).drew
  have HVQ:=kH hvq;have HDEC:=kH hdec
  have hlf:=fun q=>lookup_lay (wc.drewN q) E.f G.fields (AMap.drewN HRX.out.fl q) x
  rw[hfi]at hlf;clear hKS hdec hvq hQ2 hfi
  go_wp2_with fail
  go_quiet (fail)
  go_wp2_with fail
  go_region_held3 (fun w'=>(w'.cell? ⟨w.heap.size,0,none⟩=some (.pointer (some ⟨E.rp,0,none⟩))∧w'.cell? ⟨w.heap.size+1,0,none⟩=some (.int .i64 4)∧w'.cell? ⟨w.heap.size+1,1,none⟩=some (.string x)∧w'.cell? ⟨w.heap.size+1,2,none⟩=some (.int .i64 a)∧w'.cell? ⟨w.heap.size+1,3,none⟩=some (.int .i64 e)∧w'.cell? ⟨w.heap.size+1,4,none⟩=some (.slice A nk c)∧w'.cell? ⟨E.rp,1,none⟩=some (.map (some E.f))∧(Instr.lookup 70 (.map (some E.f)) (.string x) false).run Tryz.prog w' = .ok (.int .i64 fi) w')) (first | exact HKS.out _ _ _ (HVQ.out _) | exact HKS.out _ _ _ (by assumption)) ((go_at_call 147;refine(HDEC.out _ _).mono ?_;rintro e8 w8 ⟨rfl,V8,h8⟩))
  obtain⟨⟨q8,lq8⟩,⟨-,-,-,-,n8,ln8⟩,-⟩:=h8.cells;have hcall:=h8.kids HIH.out i 0 nk nk (by omega) HNK.out (by show 0+nk≤nk;omega) HCAP.out HVK.out (HRB.out.kids (t:=(Tree.node 4 x a e kids)) HSL.out (Nat.add_le_add_left HSL.out.next _) (HQN.out _ HNE.out)) hsep (fun g hg=>.inl hg);rw[HQ2.out]at hcall;have HC:=kH hcall;clear hcall h8
  go_wp2_with fail
  refine HC.out.mono ?_;rintro e10 w10 ⟨rfl,-,V10,h10⟩;have HE:Hid (∃ V',RSAt E G Q.1 V' w10∧ScAt w10 E.base p Q.2 ms∧KX E (fun g=>g=E.vi∨ms.head? = some g) w w10):=kH h10.end_;clear h10 HC q8 n8
  go_wp2_with fail
  go_end0
  exact⟨rfl,HE.out⟩
end Go.Proofs.YtoepemlnlpamlaaGreat
