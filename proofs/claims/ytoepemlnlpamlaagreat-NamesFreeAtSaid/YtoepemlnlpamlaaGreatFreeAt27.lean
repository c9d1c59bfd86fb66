/- The law NamesFreeAt holds: for every text and every number the law returns true, and its arguments read as before. No condition. Part 27: VisD1 VisAll Srt1. -/
import Derived.Test.YtoepemlnlpamlaaGreatFreeAt22
import Derived.Test.YtoepemlnlpamlaaGreatFreeAt23
import Derived.Test.YtoepemlnlpamlaaGreatFreeAt24
import Derived.Test.YtoepemlnlpamlaaGreatFreeAt25
import Derived.Test.YtoepemlnlpamlaaGreatFreeAt26
namespace Go.Proofs.YtoepemlnlpamlaaGreat
set_option maxRecDepth 100000
set_option maxHeartbeats 4000000
open Go.RowKit
theorem visit_type (E:RC) (G:Glob) (B:Nat) (hB:B≤E.base) (x:ByteArray) (a e:Int) (kids:List Tree) (hih:∀ k ∈ kids,VisitC E G B k):VisitC E G B (.node 9 x a e kids):=by
 intro i s p ms r V w A c h hs hsep hk hcap hbase hv hrb
 obtain⟨nk,hnk⟩:∃ q,kids.length=q:=⟨_,rfl⟩
 have hvk:VOks s.isEmpty kids=true:=by
  rw[VOk,if_neg (by decide),if_neg (by decide),if_neg (by decide)]at hv;exact hv
 have hq:visitM G i (Tree.node 9 x a e kids) s r=visitsM G i kids 0 kids.length s (useN G s r (entM r i (sortI (allS s))) (Tree.node 9 x a e kids)):=by
  rw[visitM_eq]
  repeat (rw[if_neg (by decide)])
 rw[hq]
 obtain⟨Q,hQ⟩:∃ Q,visitsM G i kids 0 kids.length s (useN G s r (entM r i (sortI (allS s))) (Tree.node 9 x a e kids))=Q:=⟨_,rfl⟩
 rw[hQ];have HQ:=kH hQ;clear hq hQ;unfold nodeV
 have hfive:(Tree.node 9 x a e kids).kind=9∧(Tree.node 9 x a e kids).text=x∧(Tree.node 9 x a e kids).at_=a∧(Tree.node 9 x a e kids).end_=e∧(Tree.node 9 x a e kids).kids=kids:=⟨rfl,rfl,rfl,rfl,rfl⟩
 rw[hfive.1,hfive.2.1,hfive.2.2.1,hfive.2.2.2.1,hfive.2.2.2.2,hnk];rw[hfive.2.2.2.2]at hk hcap;rw[hnk]at hcap
 obtain⟨nx,hnx⟩:∃ q,r.next=q:=⟨_,rfl⟩
 have hnb:nx≤1000000:=by have:=hrb.room;have:=hrb.most;omega
 have hnkb:nk≤1000000:=by have h1:=hrb.room;have h2:=hrb.most;have h3:=counts_len kids;rw[countM]at h1;omega
 have c7w:w.cell? ⟨E.rp,7,none⟩=some (.int .i64 (nx:Int)):=by rw[← hnx];exact h.blk.cell 7
 have hrw:=h.blk.lt;have hwn:IntKind.i64.wrap ((nx:Int)+1)=(nx:Int)+1:=IntWalk.i64_in _ (by omega);have hfx:=h.blk.frozen 7;have H:=kH h;have HS:=kH hs;have HK:=kH hk;have HRB:=kH hrb;have HNX:=kH hnx;have HNK:=kH hnk;have HVK:=kH hvk;have HIH:=kH hih;have HCAP:=kH hcap;have HBASE:=kH hbase;clear h hs hk hrb hnx hnk hvk hih hv hfive hcap hbase
 go_enter Tryz.func79,Tryz.ntmps79
 go_upto_if 32 with fail
 generalize hW3:(((w.setCell ⟨E.rp,7,none⟩ (.int .i64 ((nx:Int)+1))).alloc (.cells #[.pointer (some ⟨E.rp,0,none⟩)] 68)).alloc (.cells #[.int .i64 9,.string x,.int .i64 a,.int .i64 e,.slice A nk c] 24))=W3
 obtain⟨hr3,hk3⟩:=H.out.setNext (nx+1) (fun _=>False)
 have hbW:Below w.heap.size (w.setCell ⟨E.rp,7,none⟩ (.int .i64 ((nx:Int)+1))) W3:=by
  rw[← hW3];have h1:=below_alloc (w.setCell ⟨E.rp,7,none⟩ (.int .i64 ((nx:Int)+1))) (.cells #[.pointer (some ⟨E.rp,0,none⟩)] 68);have h2:=below_alloc ((w.setCell ⟨E.rp,7,none⟩ (.int .i64 ((nx:Int)+1))).alloc (.cells #[.pointer (some ⟨E.rp,0,none⟩)] 68)) (.cells #[.int .i64 9,.string x,.int .i64 a,.int .i64 e,.slice A nk c] 24);have h3:=h1.trans (h2.mono (by simp))
  simpa using h3
 have hsz3:W3.heap.size=w.heap.size+2:=by rw[← hW3];simp
 have hn3:Blk W3 (w.heap.size+1) 24 #[.int .i64 9,.string x,.int .i64 a,.int .i64 e,.slice A nk c]:=by
  have:=Blk.new ((w.setCell ⟨E.rp,7,none⟩ (.int .i64 ((nx:Int)+1))).alloc (.cells #[.pointer (some ⟨E.rp,0,none⟩)] 68)) 24 #[.int .i64 9,.string x,.int .i64 a,.int .i64 e,.slice A nk c];rw[hW3]at this
  simpa using this
 have hp3:Blk W3 w.heap.size 68 #[.pointer (some ⟨E.rp,0,none⟩)]:=by
  have:=(Blk.new (w.setCell ⟨E.rp,7,none⟩ (.int .i64 ((nx:Int)+1))) 68 #[.pointer (some ⟨E.rp,0,none⟩)]).alloc (.cells #[.int .i64 9,.string x,.int .i64 a,.int .i64 e,.slice A nk c] 24);rw[hW3]at this
  simpa using this
 have HR3:Hid (RSAt E G { r with next:=nx+1 } V W3):=kH (hr3.below (by simpa using hbW));have HK3:Hid (KX E (fun _=>False) w W3):=kH (hk3.trans (KX.of_below (M:=fun _=>False) (by simpa using hbW)) (fun g hg=>.inl hg));have HS3:Hid (ScAt W3 E.base p s ms):=kH (ScAt.kx HK3.out H.out.notScope HS.out (fun _ _ h=>h));have HN3:=kH hn3;have HP3:=kH hp3;have HSZ3:=kH hsz3;have c5:W3.cell? ⟨E.rp,5,none⟩=some (.map (some E.vi)):=HR3.out.blk.cell 5;have p0:=hp3.cell 0;have lr3:=HR3.out.blk.lt;have lp3:=hp3.lt;clear hW3 hr3 hk3 hbW hn3 hp3 hsz3 c7w hfx
 go_cut [] (fun wx => ∃ Vx,Hid (RSAt E G (entM r i (sortI (allS s))) Vx wx)∧Hid (KX E (fun g=>g=E.vi) W3 wx))
 case first =>
  cases i with
  | false =>
   go_wp2_with fail
   go_meet
   exact⟨V,by have:=HR3.out;rw[← HNX.out]at this;exact kH this,kH (KX.refl _ _ _)⟩
  | true =>
   have hbz:E.base≤W3.heap.size:=Nat.le_trans HBASE.out HK3.out.size;have hall:=all_any E.base s p ms W3.drew (ScAt.below ((Below.refl _ W3).drew) HS3.out) (by have:=HRB.out.all_;have:=HNX.out;omega);have HALL:=kH hall
   have hKS:∀ w':World,Since (fun g=>g=E.vi) W3 w'→w'.cell? ⟨E.rp,5,none⟩=some (.map (some E.vi))∧w'.cell? ⟨w.heap.size,0,none⟩=some (.pointer (some ⟨E.rp,0,none⟩)):=fun w' hw=>by
    have nm:∀ {g:Nat} {t:TypeId} {cs:Array Value},Blk W3 g t cs→g≠E.vi:=fun hb e=>by
     obtain⟨es,ck,ho⟩:=HR3.out.vi.isMap;subst e;have:W3.heap[_]? = some (Obj.cells _ _ (0,0)):=hb;rw[ho]at this
     cases this
    exact⟨(HR3.out.blk.since hw (nm HR3.out.blk)).cell 5,(HP3.out.since hw (nm HP3.out)).cell 0⟩
   have HKS:=kH hKS;have hs0:Since (fun g=>g=E.vi) W3 W3.drew:=(Since.refl _ W3).drew
   have hvn:(nx:Int) ∉ r.vis.map (·.1):=fun hm=>by
    obtain⟨y,hy,he⟩:=List.mem_map.1 hm;have:=HRB.out.vis y hy;have:=HNX.out;omega
   have HVN:=kH hvn;clear hall hKS hvn
   go_wp2_with fail
   go_region_held3 (fun w'=>w'.cell? ⟨E.rp,5,none⟩=some (.map (some E.vi))∧w'.cell? ⟨w.heap.size,0,none⟩=some (.pointer (some ⟨E.rp,0,none⟩))) (exact HKS.out _ (by assumption)) ((go_at_call 145;refine HALL.out.mono ?_;rintro e5 w5 ⟨v5,rfl,ho5,hb5⟩;have hs5:=hs0.below hb5;obtain⟨w6,hrun,hm6,hg6,hz6⟩:=run_mapUpdate_am (P:=Tryz.prog) (KK:=intK) (t:=72) (kt:=3) (et:=28) Tryz.underlying72 Tryz.underlying3 ((AMap.drew HR3.out.vi).beh hb5) (nx:Int) v5;change (Instr.mapUpdate 72 (.map (some E.vi)) (Value.int .i64 (nx:Int)) v5).run Tryz.prog w5=_ at hrun;have hs6:Since (fun g=>g=E.vi) w5 w6:=(Since.refl (fun g=>g=E.vi) w5).grown hg6 (fun k hk=>by cases hk;exact .inl rfl);have hs7:=hs5.trans hs6))
   have hlen:(sortI (allS s)).length=(allS s).length:=List.length_mergeSort _;have hb35:Below W3.heap.size W3 w5:=((Below.refl _ W3).drew).trans hb5;have hnote:=HR3.out.noteVis hbz hb35 (nx:Int) (sortI (allS s)) v5 (by rw[hlen];exact ho5) HVN.out (fun g=>g=E.vi) rfl hm6 hs6;have HNOTE:=kH hnote;clear hnote hs5 hs6 hs7 hz6 hm6 hb35 hb5 ho5 hs0 hrun hg6
   go_wp2_with fail
   go_meet
   exact⟨_,by have:=HNOTE.out.1;rw[← HNX.out]at this;exact kH this,kH HNOTE.out.2⟩
 case rest =>
  obtain⟨Vx,HRX,HKX⟩:=hcut;have HKW:Hid (KX E (fun g=>g=E.vi) w wc):=kH ((HK3.out.mono (fun _ hf=>hf.elim)).trans HKX.out (fun g hg=>.inl hg));have HV:Hid (VW E G B ⟨kids,9,x,a,e,A,nk,c,w.heap.size+1,w.heap.size⟩ w (fun g=>g=E.vi∨ms.head? = some g) (entM r i (sortI (allS s))) Vx s p ms wc):=kH ⟨HRX.out,ScAt.kx HKX.out HR3.out.notScope HS3.out (fun m hm e=>(hsep.apart m hm).2.2.2 e),HR3.out.node_at HKX.out HN3.out,HR3.out.ptr_at HKX.out HP3.out,HKW.out.mono (fun _ h=>.inl h),KidsAt.below ((KX.low HKW.out HBASE.out).mono hB) (Nat.le_refl _) _ _ _ HK.out,Nat.le_trans HBASE.out (KX.low HKW.out HBASE.out).size,hB⟩
  have hlk:=fun q=>lookupOk_lay (wc.drewN q) E.g G.globals (AMap.drewN HRX.out.gl q) x
  obtain⟨gi,hgi⟩:∃ q,(lookL G.globals x).getD 0=q:=⟨_,rfl⟩
  obtain⟨gb,hgb⟩:∃ q,(lookL G.globals x).isSome=q:=⟨_,rfl⟩
  rw[hgi,hgb]at hlk;obtain⟨⟨q0,lp⟩,⟨n0,n1,n2,n3,n4,ln⟩,⟨c0,c1,c2,c8,lr⟩⟩:=HV.out.cells;have HGI:=kH hgi;have HGB:=kH hgb
  have hD:(entM r i (sortI (allS s))).ds.length≤1000000:=by show r.ds.length≤_;have:=HRB.out.ds;have:=HNX.out;omega
  have hP:(entM r i (sortI (allS s))).probs.length≤1000000:=by show r.probs.length≤_;have:=HRB.out.probs;have:=HNX.out;omega
  have hU:nx < (entM r i (sortI (allS s))).uses.length:=by show nx < r.uses.length;have h1:=HRB.out.room;have h2:=HNX.out;rw[countM]at h1;omega
  have HD:=kH hD;have HPR:=kH hP;have HU:=kH hU
  have hqn:∀ u:RS,u.next=r.next+1→u.next≤r.next+1+countsM ((Tree.node 9 x a e kids).kids.take 0):=fun u hu=>by rw[hu];exact Nat.le_add_right _ _
  have HQN:=kH hqn;clear hgi hgb c5 p0 lr3 lp3 hqn hD hP hU c8
  by_cases h1:x=(⟨#[105,110,116]⟩:ByteArray)
  ·have hsc:isScalar x=true:=by rw[h1];rfl
   have f1:x.toList = [105,110,116]:=by rw[h1,ByteArray.toList_eq]
   clear h1
   have hu:useN G s r (entM r i (sortI (allS s))) (Tree.node 9 x a e kids)=(entM r i (sortI (allS s))):=by
    unfold useN;show (if (9:Int)=20 then _ else if (9:Int)=22 then _ else if (9:Int)=27 then _ else if (9:Int)=19 then _ else if (9:Int)=9∧isScalar x=false then _ else _)=_;rw[if_neg (by decide),if_neg (by decide),if_neg (by decide),if_neg (by decide)];exact if_neg (fun (h:(9:Int)=9∧isScalar x=false)=>by rw[hsc]at h;cases h.2)
   have hcall:=fun q=>(HV.out.drewN q).kids HIH.out i 0 nk nk (by omega) HNK.out (by show 0+nk≤nk;omega) HCAP.out HVK.out (HRB.out.kids (t:=(Tree.node 9 x a e kids)) (slow_steps.none_ r i _) (Nat.add_le_add_left (Nat.le_succ _) _) (HQN.out _ rfl)) hsep (fun g hg=>.inl hg)
   have hQ2:visitsM G i kids 0 nk s (entM r i (sortI (allS s)))=Q:=by rw[← HQ.out,hu,HNK.out]
   have HQ2:=kH hQ2;have HCA:=kH hcall;clear hcall hQ2 hu hsc
   go_wp2_with fail
   go_quiet (fail)
   go_wp2_with fail
   refine(HCA.out _).mono ?_;rintro e10 w10 ⟨rfl,-,V10,h10⟩;have HE:Hid (∃ V',RSAt E G Q.1 V' w10∧ScAt w10 E.base p Q.2 ms∧KX E (fun g=>g=E.vi∨ms.head? = some g) w w10):=kH (by rw[← HQ2.out];exact h10.end_);clear h10 HCA
   go_wp2_with fail
   go_end0
   exact⟨rfl,HE.out⟩
  by_cases h2:x=(⟨#[98,111,111,108]⟩:ByteArray)
  ·have hsc:isScalar x=true:=by rw[h2];rfl
   have f1:x.toList = [98,111,111,108]:=by rw[h2,ByteArray.toList_eq]
   clear h1 h2
   have hu:useN G s r (entM r i (sortI (allS s))) (Tree.node 9 x a e kids)=(entM r i (sortI (allS s))):=by
    unfold useN;show (if (9:Int)=20 then _ else if (9:Int)=22 then _ else if (9:Int)=27 then _ else if (9:Int)=19 then _ else if (9:Int)=9∧isScalar x=false then _ else _)=_;rw[if_neg (by decide),if_neg (by decide),if_neg (by decide),if_neg (by decide)];exact if_neg (fun (h:(9:Int)=9∧isScalar x=false)=>by rw[hsc]at h;cases h.2)
   have hcall:=fun q=>(HV.out.drewN q).kids HIH.out i 0 nk nk (by omega) HNK.out (by show 0+nk≤nk;omega) HCAP.out HVK.out (HRB.out.kids (t:=(Tree.node 9 x a e kids)) (slow_steps.none_ r i _) (Nat.add_le_add_left (Nat.le_succ _) _) (HQN.out _ rfl)) hsep (fun g hg=>.inl hg)
   have hQ2:visitsM G i kids 0 nk s (entM r i (sortI (allS s)))=Q:=by rw[← HQ.out,hu,HNK.out]
   have HQ2:=kH hQ2;have HCA:=kH hcall;clear hcall hQ2 hu hsc
   go_wp2_with fail
   go_quiet (fail)
   go_wp2_with fail
   refine(HCA.out _).mono ?_;rintro e10 w10 ⟨rfl,-,V10,h10⟩;have HE:Hid (∃ V',RSAt E G Q.1 V' w10∧ScAt w10 E.base p Q.2 ms∧KX E (fun g=>g=E.vi∨ms.head? = some g) w w10):=kH (by rw[← HQ2.out];exact h10.end_);clear h10 HCA
   go_wp2_with fail
   go_end0
   exact⟨rfl,HE.out⟩
  have hsc:isScalar x=false:=by
   unfold isScalar;rw[decide_eq_false h1,decide_eq_false h2];rfl
  have f1:¬ x.toList = [105,110,116]:=fun h=>h1 (bytes_eq (by rw[← ByteArray.toList_eq,h]))
  have f2:¬ x.toList = [98,111,111,108]:=fun h=>h2 (bytes_eq (by rw[← ByteArray.toList_eq,h]))
  have g1:(x.toList == [105,110,116])=false:=by rw[beq_eq_false_iff_ne];exact f1
  have g2:(x.toList == [98,111,111,108])=false:=by rw[beq_eq_false_iff_ne];exact f2
  clear h1 h2
  obtain⟨tq,htq⟩:∃ tq,((layM G.globals x).filter fun j=>decide (kindAt G j=3))=tq:=⟨_,rfl⟩
  have HTQ:=kH htq
  have hQ2:visitsM G i kids 0 nk s (useM (entM r i (sortI (allS s))) nx (Tree.node 9 x a e kids) tq)=Q:=by
   rw[← HQ.out,HNK.out,← htq,← HNX.out]
   have:useN G s r (entM r i (sortI (allS s))) (Tree.node 9 x a e kids)=useM (entM r i (sortI (allS s))) r.next (Tree.node 9 x a e kids) ((layM G.globals x).filter fun j=>decide (kindAt G j=3)):=by
    unfold useN;show (if (9:Int)=20 then _ else if (9:Int)=22 then _ else if (9:Int)=27 then _ else if (9:Int)=19 then _ else if (9:Int)=9∧isScalar x=false then _ else _)=_;rw[if_neg (by decide),if_neg (by decide),if_neg (by decide),if_neg (by decide)];exact if_pos ⟨rfl,hsc⟩
   rw[this]
  have HQ2:=kH hQ2;have HSL:Hid (Slow r (useM (entM r i (sortI (allS s))) nx (Tree.node 9 x a e kids) tq)):=kH (by have:=slow_steps.useM_ r i (sortI (allS s)) (Tree.node 9 x a e kids) tq;rw[HNX.out]at this;exact this);have HNE:Hid ((useM (entM r i (sortI (allS s))) nx (Tree.node 9 x a e kids) tq).next=r.next+1):=kH (by cases tq <;> rfl);clear hQ2 hsc
  obtain⟨kk,hkk⟩:∃ q,kindAt G gi=q:=⟨_,rfl⟩
  have hty:∀ k,tq=some k→k=gi:=fun k hk=>by
   rw[← htq]at hk;rw[← HGI.out]
   cases hl:lookL G.globals x with
   | none=>rw[show layM G.globals x=none from hl]at hk;cases hk
   | some y =>
    rw[show layM G.globals x=some y from hl]at hk;have:=(Option.filter_eq_some_iff.1 hk).1;simp only[Option.some.injEq]at this;rw[← this];rfl
  have htb:tq.isSome=(gb && (kk == 3)):=by
   rw[← htq,← HGB.out,← hkk,← HGI.out]
   cases hl:lookL G.globals x with
   | none=>rw[show layM G.globals x=none from hl];rfl
   | some y =>
    rw[show layM G.globals x=some y from hl];show (Option.filter (fun j=>decide (kindAt G j=3)) (some y)).isSome=(true && (kindAt G y == 3))
    by_cases hy:kindAt G y=3
    ·simp[hy]
    ·simp[hy]
  have hKS:∀ r' V' w',VW E G B ⟨kids,9,x,a,e,A,nk,c,w.heap.size+1,w.heap.size⟩ w (fun g=>g=E.vi∨ms.head? = some g) r' V' s p ms w'→(w'.cell? ⟨w.heap.size,0,none⟩=some (.pointer (some ⟨E.rp,0,none⟩))∧w'.cell? ⟨w.heap.size+1,0,none⟩=some (.int .i64 9)∧w'.cell? ⟨w.heap.size+1,1,none⟩=some (.string x)∧w'.cell? ⟨w.heap.size+1,2,none⟩=some (.int .i64 a)∧w'.cell? ⟨w.heap.size+1,3,none⟩=some (.int .i64 e)∧w'.cell? ⟨w.heap.size+1,4,none⟩=some (.slice A nk c)∧w'.cell? ⟨E.rp,2,none⟩=some (.map (some E.k))∧(Instr.lookup 71 (.map (some E.k)) (.int .i64 gi) false).run Tryz.prog w' = .ok (.int .i64 kk) w'):=fun r' V' w' hv=>by
   obtain⟨⟨y0,-⟩,⟨z0,z1,z2,z3,z4,-⟩,⟨-,-,d2,-,-⟩⟩:=hv.cells;exact⟨y0,z0,z1,z2,z3,z4,d2,by have:=lookup_int w' E.k G.kinds hv.R.kn gi;rw[show (lookL G.kinds gi).getD 0=kk from hkk]at this;exact this⟩
  have HKS:=kH hKS
  have huse:=fun q=>((HV.out.drewN q).drew).use_ (Tree.node 9 x a e kids) ⟨rfl,rfl,rfl,rfl,rfl⟩ HNK.out HPR.out nx HU.out tq gi hty
  rw[htb]at huse
  have hvq:=fun q=>(HV.out.drewN q).drew
  have HVQ:=kH hvq
  have hlf:=fun q=>lookup_int (wc.drewN q) E.k G.kinds (AMap.drewN HRX.out.kn q) gi
  rw[show (lookL G.kinds gi).getD 0=kk from hkk]at hlf;clear hKS hvq htq hty htb hkk
  cases gb with
  | false =>
   rw[Bool.false_and]at huse;have HUS:=kH huse;clear huse
   go_wp2_with fail
   go_quiet (fail)
   go_wp2_with fail
   have hS0:=HKS.out _ _ _ (HVQ.out nq);refine wp_region_HG (fun w'=>(w'.cell? ⟨w.heap.size,0,none⟩=some (.pointer (some ⟨E.rp,0,none⟩))∧w'.cell? ⟨w.heap.size+1,0,none⟩=some (.int .i64 9)∧w'.cell? ⟨w.heap.size+1,1,none⟩=some (.string x)∧w'.cell? ⟨w.heap.size+1,2,none⟩=some (.int .i64 a)∧w'.cell? ⟨w.heap.size+1,3,none⟩=some (.int .i64 e)∧w'.cell? ⟨w.heap.size+1,4,none⟩=some (.slice A nk c)∧w'.cell? ⟨E.rp,2,none⟩=some (.map (some E.k))∧(Instr.lookup 71 (.map (some E.k)) (.int .i64 gi) false).run Tryz.prog w' = .ok (.int .i64 kk) w')) [] [true,true,true,true,true,true,true,true,true,true,true,true,true,true,false] (by kernel_rfl) (by kernel_rfl) rfl (by kernel_rfl) ?_
   iterate 14((first | (refine wpHG_off (by rfl) hS0 ?_) | (refine wpHG_soft (by rfl) hS0 (by intro w' hSw;obtain⟨hs1,hs2,hs3,hs4,hs5,hs6,hs7,hs8⟩:=hSw;go_simp;rfl) ?_));simp only[Act.put,sA,sZ,sC])
   refine wpHG_call (by rfl) (by go_simp) ((HUS.out _).mono ?_);rintro e8 w8 ⟨rfl,V8,h8⟩;refine⟨_,rfl,fun _=>HKS.out _ _ _ h8,?_⟩;simp only[Act.put,sA,sZ,sC];refine wpHG_nil ?_;obtain⟨⟨q8,lq8⟩,⟨-,-,-,-,n8,ln8⟩,-⟩:=h8.cells;have hcall:=h8.kids HIH.out i 0 nk nk (by omega) HNK.out (by show 0+nk≤nk;omega) HCAP.out HVK.out (HRB.out.kids (t:=(Tree.node 9 x a e kids)) HSL.out (Nat.add_le_add_left HSL.out.next _) (HQN.out _ HNE.out)) hsep (fun g hg=>.inl hg);rw[HQ2.out]at hcall;have HC:=kH hcall;clear hcall h8
   go_wp2_with fail
   refine HC.out.mono ?_;rintro e10 w10 ⟨rfl,-,V10,h10⟩;have HE:Hid (∃ V',RSAt E G Q.1 V' w10∧ScAt w10 E.base p Q.2 ms∧KX E (fun g=>g=E.vi∨ms.head? = some g) w w10):=kH h10.end_;clear h10 HC q8 n8
   go_wp2_with fail
   go_end0
   exact⟨rfl,HE.out⟩
  | true =>
   rw[Bool.true_and]at huse;have HUS:=kH huse;clear huse
   go_wp2_with fail
   go_quiet (fail)
   go_wp2_with fail
   have hS0:=HKS.out _ _ _ (HVQ.out nq);refine wp_region_HG (fun w'=>(w'.cell? ⟨w.heap.size,0,none⟩=some (.pointer (some ⟨E.rp,0,none⟩))∧w'.cell? ⟨w.heap.size+1,0,none⟩=some (.int .i64 9)∧w'.cell? ⟨w.heap.size+1,1,none⟩=some (.string x)∧w'.cell? ⟨w.heap.size+1,2,none⟩=some (.int .i64 a)∧w'.cell? ⟨w.heap.size+1,3,none⟩=some (.int .i64 e)∧w'.cell? ⟨w.heap.size+1,4,none⟩=some (.slice A nk c)∧w'.cell? ⟨E.rp,2,none⟩=some (.map (some E.k))∧(Instr.lookup 71 (.map (some E.k)) (.int .i64 gi) false).run Tryz.prog w' = .ok (.int .i64 kk) w')) [] [true,true,true,true,true,true,true,true,true,true,true,true,true,true,false] (by kernel_rfl) (by kernel_rfl) rfl (by kernel_rfl) ?_
   iterate 14((first | (refine wpHG_off (by rfl) hS0 ?_) | (refine wpHG_soft (by rfl) hS0 (by intro w' hSw;obtain⟨hs1,hs2,hs3,hs4,hs5,hs6,hs7,hs8⟩:=hSw;go_simp;rfl) ?_));simp only[Act.put,sA,sZ,sC])
   refine wpHG_call (by rfl) (by go_simp) ((HUS.out _).mono ?_);rintro e8 w8 ⟨rfl,V8,h8⟩;refine⟨_,rfl,fun _=>HKS.out _ _ _ h8,?_⟩;simp only[Act.put,sA,sZ,sC];refine wpHG_nil ?_;obtain⟨⟨q8,lq8⟩,⟨-,-,-,-,n8,ln8⟩,-⟩:=h8.cells;have hcall:=h8.kids HIH.out i 0 nk nk (by omega) HNK.out (by show 0+nk≤nk;omega) HCAP.out HVK.out (HRB.out.kids (t:=(Tree.node 9 x a e kids)) HSL.out (Nat.add_le_add_left HSL.out.next _) (HQN.out _ HNE.out)) hsep (fun g hg=>.inl hg);rw[HQ2.out]at hcall;have HC:=kH hcall;clear hcall h8
   go_wp2_with fail
   refine HC.out.mono ?_;rintro e10 w10 ⟨rfl,-,V10,h10⟩;have HE:Hid (∃ V',RSAt E G Q.1 V' w10∧ScAt w10 E.base p Q.2 ms∧KX E (fun g=>g=E.vi∨ms.head? = some g) w w10):=kH h10.end_;clear h10 HC q8 n8
   go_wp2_with fail
   go_end0
   exact⟨rfl,HE.out⟩
end Go.Proofs.YtoepemlnlpamlaaGreat
namespace Go.Proofs.YtoepemlnlpamlaaGreat
set_option maxRecDepth 100000
set_option maxHeartbeats 4000000
theorem counts_mem:∀ {ts:List Tree} {c:Tree},c ∈ ts→countM c≤countsM ts
 | [],c,h=>by cases h
 | t :: ts,c,h=>by
  rw[countsM]
  rcases List.mem_cons.1 h with rfl | h
  ·omega
  ·have:=counts_mem h
   omega
theorem visit_n (E:RC) (G:Glob) (B:Nat) (hB:B≤E.base):∀ (n:Nat) (t:Tree),countM t≤n→VisitC E G B t
 | 0,t,h=>by
  have:=countM_one t;omega
 | n+1,.node k x a e kids,h=>by
  have hih:∀ c ∈ kids,VisitC E G B c:=fun c hc=>visit_n E G B hB n c (by
   have:=counts_mem hc;rw[countM]at h
   omega)
  by_cases h3:k=3
  ·subst h3;exact visit_record E G B hB x a e kids hih
  by_cases h4:k=4
  ·subst h4;exact visit_field E G B hB x a e kids hih
  by_cases h5:k=5
  ·subst h5;exact visit_proc E G B hB x a e kids hih
  by_cases h7:k=7
  ·subst h7;exact visit_param E G B hB x a e kids hih
  by_cases h8:k=8
  ·subst h8;exact visit_varparam E G B hB x a e kids hih
  by_cases h11:k=11
  ·subst h11;exact visit_block E G B hB x a e kids hih
  by_cases h12:k=12
  ·subst h12;exact visit_var E G B hB x a e kids hih
  by_cases h16:k=16
  ·subst h16;exact visit_for E G B hB x a e kids hih
  by_cases h20:k=20
  ·subst h20;exact visit_name E G B hB x a e kids hih
  by_cases h22:k=22
  ·subst h22;exact visit_member E G B hB x a e kids hih
  by_cases h27:k=27
  ·subst h27;exact visit_call E G B hB x a e kids hih
  by_cases h19:k=19
  ·subst h19;exact visit_do E G B hB x a e kids hih
  by_cases h9:k=9
  ·subst h9;exact visit_type E G B hB x a e kids hih
  exact visit_other E G B hB k x a e kids hih h3 h4 h5 h7 h8 h11 h12 h16 h20 h22 h27 h19 h9
theorem visit_all (E:RC) (G:Glob) (B:Nat) (hB:B≤E.base) (t:Tree):VisitC E G B t:=visit_n E G B hB (countM t) t (Nat.le_refl _)
end Go.Proofs.YtoepemlnlpamlaaGreat
namespace Go.Proofs.YtoepemlnlpamlaaGreat
set_option maxRecDepth 100000
set_option maxHeartbeats 4000000
open Go.RowKit
theorem isNaN_any (x:Int) (w:World):Calls Tryz.prog 151 #[.int .i64 x] w fun e w'=>e = .returned (.bool false)∧w'=w:=by
 go_enter Tryz.func151,Tryz.ntmps151
 go_wp2_with fail
 go_ret
 exact⟨rfl,rfl⟩
def cmpI (a b:Int):Int:=if a < b then -1 else if b < a then 1 else 0
theorem compare_any (a b:Int) (w:World):Calls Tryz.prog 82 #[.int .i64 a,.int .i64 b] w fun e w'=>e = .returned (.int .i64 (cmpI a b))∧w'=w:=by
 unfold cmpI
 by_cases h1:a < b
 ·rw[if_pos h1]
  go_enter Tryz.func82,Tryz.ntmps82
  go_wp2_with (go_at_call 151;refine(isNaN_any _ _).mono ?_;rintro e w2 ⟨rfl,rfl⟩)
  go_ret
  exact⟨rfl,rfl⟩
 ·rw[if_neg h1]
  by_cases h2:b < a
  ·rw[if_pos h2]
   go_enter Tryz.func82,Tryz.ntmps82
   go_wp2_with (go_at_call 151;refine(isNaN_any _ _).mono ?_;rintro e w2 ⟨rfl,rfl⟩)
   go_ret
   exact⟨rfl,rfl⟩
  ·rw[if_neg h2]
   go_enter Tryz.func82,Tryz.ntmps82
   go_wp2_with (go_at_call 151;refine(isNaN_any _ _).mono ?_;rintro e w2 ⟨rfl,rfl⟩)
   go_ret
   exact⟨rfl,rfl⟩
theorem cmp_any (a1 a2 a3 a4 b1 b2 b3 b4:Int) (ax bx:ByteArray) (av bv:Value) (w:World) :
 Calls Tryz.prog 81 #[.agg #[.int .i64 a1,.int .i64 a2,.int .i64 a3,.int .i64 a4,.string ax,av],.agg #[.int .i64 b1,.int .i64 b2,.int .i64 b3,.int .i64 b4,.string bx,bv]] w fun e w'=>e = .returned (.int .i64 (cmpI a1 b1))∧Below w.heap.size w w':=by
 have hc:=fun w=>compare_any a1 b1 w
 obtain⟨q,hq⟩:∃ q,cmpI a1 b1=q:=⟨_,rfl⟩
 rw[hq]at hc ⊢;clear hq
 go_enter Tryz.func81,Tryz.ntmps81
 go_wp2_with (go_at_call 82;refine(hc _).mono ?_;rintro e w2 ⟨rfl,rfl⟩)
 go_ret
 exact⟨rfl,by (repeat (first | exact Below.refl _ _ | assumption | refine Below.trans ?_ (Below.mono (by assumption) (by first | omega | (simp;done) | (simp;omega))) | refine Below.alloc ?_ (by first | omega | (simp;done) | (simp;omega)) _ | refine Below.setCell ?_ (by first | omega | (simp;done) | (simp;omega)) _ | refine Below.drew ?_ | refine below_drewN ?_ _))⟩
theorem prob_two {w:World} {A:Option Addr} {l:List (Int × Dg)} (h:RowAt 6 pbCells w w.heap.size A l) {i j:Nat} {p q:Int × Dg} (hi:l[i]? = some p) (hj:l[j]? = some q) :
 ∃ b off,A=some ⟨b,off,none⟩∧b < w.heap.size∧∀ w',Below w.heap.size w w' →
  w'.cell? ⟨b,off+i * 6,none⟩=some (.int .i64 p.1)∧w'.cell? ⟨b,off+i * 6+1,none⟩=some (.int .i64 p.2.code)∧w'.cell? ⟨b,off+i * 6+2,none⟩=some (.int .i64 p.2.at_)∧w'.cell? ⟨b,off+i * 6+3,none⟩=some (.int .i64 p.2.end_)∧w'.cell? ⟨b,off+i * 6+4,none⟩=some (.string p.2.text)∧w'.cell? ⟨b,off+i * 6+5,none⟩=some (.slice none 0 0) ∧
  w'.cell? ⟨b,off+j * 6,none⟩=some (.int .i64 q.1)∧w'.cell? ⟨b,off+j * 6+1,none⟩=some (.int .i64 q.2.code)∧w'.cell? ⟨b,off+j * 6+2,none⟩=some (.int .i64 q.2.at_)∧w'.cell? ⟨b,off+j * 6+3,none⟩=some (.int .i64 q.2.end_)∧w'.cell? ⟨b,off+j * 6+4,none⟩=some (.string q.2.text)∧w'.cell? ⟨b,off+j * 6+5,none⟩=some (.slice none 0 0):=by
 obtain⟨b,off,hA,hlt,hc⟩:=h i p hi;obtain⟨b',off',hA',-,hd⟩:=h j q hj;rw[hA]at hA';simp only[Option.some.injEq,Addr.mk.injEq,and_true]at hA';obtain⟨rfl,rfl⟩:=hA';refine⟨b,off,hA,hlt,fun w' hb=>?_⟩
 have hk:∀ (o:Nat) (v:Value),w.cell? ⟨b,o,none⟩=some v→w'.cell? ⟨b,o,none⟩=some v:=fun o v h=>(hb.cell (p:=⟨b,o,none⟩) hlt).trans h
 exact⟨hk _ _ (hc 0 _ rfl),hk _ _ (hc 1 _ rfl),hk _ _ (hc 2 _ rfl),hk _ _ (hc 3 _ rfl),hk _ _ (hc 4 _ rfl),hk _ _ (hc 5 _ rfl),hk _ _ (hd 0 _ rfl),hk _ _ (hd 1 _ rfl),hk _ _ (hd 2 _ rfl),hk _ _ (hd 3 _ rfl),hk _ _ (hd 4 _ rfl),hk _ _ (hd 5 _ rfl)⟩
def Rise (l:List (Int × Dg)):Prop:=l.Pairwise fun x y=>x.1 < y.1
theorem Rise.lt {l:List (Int × Dg)} (h:Rise l) {i j:Nat} {p q:Int × Dg} (hi:l[i]? = some p) (hj:l[j]? = some q) (hij:i < j):p.1 < q.1:=by
 obtain⟨h1,rfl⟩:=List.getElem?_eq_some_iff.1 hi;obtain⟨h2,rfl⟩:=List.getElem?_eq_some_iff.1 hj;exact List.pairwise_iff_getElem.1 h i j h1 h2 hij
theorem Rise.cmp {l:List (Int × Dg)} (h:Rise l) {i j:Nat} {p q:Int × Dg} (hi:l[i]? = some p) (hj:l[j]? = some q) (hij:i < j):cmpI q.1 p.1=1:=by
 have:=h.lt hi hj hij;unfold cmpI;rw[if_neg (by omega),if_pos this]
theorem ins_any (l:List (Int × Dg)) (A:Option Addr) (n c a b:Nat) (w:World) (hn:l.length=n) (hR:RowAt 6 pbCells w w.heap.size A l) (hS:Rise l) (hab:a≤b) (hb:b≤n) (hm:n≤1000000) :
 Calls Tryz.prog 202 #[.slice A n c,.int .i64 (a:Int),.int .i64 (b:Int),.func (.func 81) #[] #[]] w fun e w'=>e = .returned (.tuple #[])∧Below w.heap.size w w':=by
 have HR:=kH hR;have HS:=kH hS;have HN:=kH hn;clear hR hS hn;have hwa:IntKind.i64.wrap ((a:Int)+1)=(a:Int)+1:=IntWalk.i64_in _ (by omega)
 go_enter Tryz.func202,Tryz.ntmps202
 go_wp2_with fail
 go_loopg [8] (b+1 - a) (fun gk s8 wr => ∃ i:Nat,s8 = .int .i64 ((i:Int)+1)∧a≤i∧i≤b∧gk=b+1 - i∧Hid (Below w.heap.size w wr))
 case atStart=>exact⟨a,rfl,Nat.le_refl _,hab,rfl,kH (Below.refl _ _)⟩
 case round =>
  obtain⟨i,rfl,hai,hib,hgi,HB⟩:=hrel
  by_cases hlt:i+1 < b
  ·have hlt':(i:Int)+1 < (b:Int):=by omega
   have hgt':(a:Int) < (i:Int)+1:=by omega
   obtain⟨p,hp⟩:∃ p,l[i+1]? = some p:=⟨_,List.getElem?_eq_getElem (by rw[HN.out];omega)⟩
   obtain⟨q,hq⟩:∃ q,l[i]? = some q:=⟨_,List.getElem?_eq_getElem (by rw[HN.out];omega)⟩
   have hcmp:=HS.out.cmp hq hp (by omega);have hRr:RowAt 6 pbCells wr wr.heap.size A l:=HR.out.later HB.out;obtain⟨bb,off,hA,hbl,hcs⟩:=prob_two hRr hp hq;subst hA
   obtain⟨p1,p2,p3,p4,p5,hpe⟩:∃ p1 p2 p3 p4 p5,p=(p1,(⟨p2,p3,p4,p5⟩:Dg)):=⟨_,_,_,_,_,rfl⟩
   obtain⟨q1,q2,q3,q4,q5,hqe⟩:∃ q1 q2 q3 q4 q5,q=(q1,(⟨q2,q3,q4,q5⟩:Dg)):=⟨_,_,_,_,_,rfl⟩
   subst hpe hqe
   have hcall:=fun w'=>cmp_any p1 p2 p3 p4 q1 q2 q3 q4 p5 q5 (.slice none 0 0) (.slice none 0 0) w'
   rw[show cmpI p1 q1=1 from hcmp]at hcall;have HC:=kH hcall;have HCS:=kH hcs;have hw1:IntKind.i64.wrap ((i:Int)+1+1)=(i:Int)+1+1:=IntWalk.i64_in _ (by omega);have hw0:IntKind.i64.wrap (i:Int)=(i:Int):=IntWalk.i64_in _ (by omega)
   have hi1:((i:Int)+1).toNat=i+1:=by omega
   have hin:i+1 < n:=by omega
   have hin0:i < n:=by omega
   have hz0:(0:Int)≤(i:Int)+1:=by omega
   have hz1:(i:Int)+1 < (n:Int):=by omega
   have hS0:=hcs wr.drew ((Below.refl _ _).drew);clear hcall hcs hcmp hp hq hRr
   go_wp2_with fail
   refine wp_loop_rounds 1 ?_;rw[rounds_succ]
   go_wp2_with fail
   refine wp_region_HG (fun w'=>Below wr.heap.size wr w'∧w'.cell? ⟨bb,off+(i+1) * 6,none⟩=some (.int .i64 p1)∧w'.cell? ⟨bb,off+(i+1) * 6+1,none⟩=some (.int .i64 p2)∧w'.cell? ⟨bb,off+(i+1) * 6+2,none⟩=some (.int .i64 p3)∧w'.cell? ⟨bb,off+(i+1) * 6+3,none⟩=some (.int .i64 p4)∧w'.cell? ⟨bb,off+(i+1) * 6+4,none⟩=some (.string p5)∧w'.cell? ⟨bb,off+(i+1) * 6+5,none⟩=some (.slice none 0 0)∧w'.cell? ⟨bb,off+i * 6,none⟩=some (.int .i64 q1)∧w'.cell? ⟨bb,off+i * 6+1,none⟩=some (.int .i64 q2)∧w'.cell? ⟨bb,off+i * 6+2,none⟩=some (.int .i64 q3)∧w'.cell? ⟨bb,off+i * 6+3,none⟩=some (.int .i64 q4)∧w'.cell? ⟨bb,off+i * 6+4,none⟩=some (.string q5)∧w'.cell? ⟨bb,off+i * 6+5,none⟩=some (.slice none 0 0)) [] [true,true,true,true,true,true,true,true,true,true,true,true,true,true,false,true,true] (by kernel_rfl) (by kernel_rfl) rfl (by kernel_rfl) ?_;have hS1:=And.intro ((Below.refl wr.heap.size wr).drew) hS0;clear hS0
   iterate 14((first | (refine wpHG_off (by rfl) hS1 ?_) | (refine wpHG_soft (by rfl) hS1 (by intro w' hSw;obtain⟨-,hs1,hs2,hs3,hs4,hs5,hs6,hs7,hs8,hs9,hs10,hs11,hs12⟩:=hSw;go_simp;rfl) ?_));simp only[Act.put,sA,sZ,sC])
   refine wpHG_call (by rfl) (by go_simp) ((HC.out _).mono ?_);rintro e5 w5 ⟨rfl,hb5⟩;have hbr:Below wr.heap.size wr w5:=((Below.refl wr.heap.size wr).drew).trans hb5;have hS2:=And.intro hbr (HCS.out w5 hbr);refine⟨_,rfl,fun _=>hS2,?_⟩
   iterate 2(simp only[Act.put,sA,sZ,sC];(first | (refine wpHG_off (by rfl) hS2 ?_) | (refine wpHG_soft (by rfl) hS2 (by intro w' hSw;obtain⟨-,hs1,hs2,hs3,hs4,hs5,hs6,hs7,hs8,hs9,hs10,hs11,hs12⟩:=hSw;go_simp;rfl) ?_)))
   simp only[Act.put,sA,sZ,sC];refine wpHG_nil ?_;have HB5:Hid (Below w.heap.size w w5):=kH (HB.out.trans (hbr.mono HB.out.size));clear hS1 hS2 hbr hb5
   go_wp2_with fail
   go_roundg (gk - 1)
   case measure=>omega
   case rel=>exact⟨i+1,by simp,by omega,by omega,by omega,HB5⟩
  ·have hge:(b:Int)≤(i:Int)+1:=by omega
   go_wp2_with fail
   go_end0
   exact⟨rfl,HB.out⟩
end Go.Proofs.YtoepemlnlpamlaaGreat
