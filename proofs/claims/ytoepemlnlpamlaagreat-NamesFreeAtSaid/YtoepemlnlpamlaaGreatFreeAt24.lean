/- The law NamesFreeAt holds: for every text and every number the law returns true, and its arguments read as before. No condition. Part 24: VisB1 VisB2 VisB3 VisX. -/
import Derived.Test.YtoepemlnlpamlaaGreatFreeAt13
import Derived.Test.YtoepemlnlpamlaaGreatFreeAt22
namespace Go.Proofs.YtoepemlnlpamlaaGreat
set_option maxRecDepth 100000
set_option maxHeartbeats 4000000
open Go.RowKit
theorem visit_param (E:RC) (G:Glob) (B:Nat) (hB:B≤E.base) (x:ByteArray) (a e:Int) (kids:List Tree) (hih:∀ k ∈ kids,VisitC E G B k):VisitC E G B (.node 7 x a e kids):=by
 intro i s p ms r V w A c h hs hsep hk hcap hbase hv hrb
 obtain⟨nk,hnk⟩:∃ q,kids.length=q:=⟨_,rfl⟩
 have hvk:s.isEmpty=false∧VOks s.isEmpty kids=true:=by
  rw[VOk,if_neg (by decide),if_neg (by decide),if_pos (by decide)]at hv;simp only[Bool.and_eq_true,Bool.not_eq_true']at hv;exact⟨hv.1.1.1,hv.2⟩
 have hq:visitM G i (Tree.node 7 x a e kids) s r=visitsM G i kids 0 kids.length (variableM G (entM r i (sortI (allS s))) 3 r.next (Tree.node 7 x a e kids) s).2 (variableM G (entM r i (sortI (allS s))) 3 r.next (Tree.node 7 x a e kids) s).1:=by
  rw[visitM_eq,if_neg (by decide),if_neg (by decide),if_neg (by decide),if_pos (by decide)]
 rw[hq]
 obtain⟨Q,hQ⟩:∃ Q,visitsM G i kids 0 kids.length (variableM G (entM r i (sortI (allS s))) 3 r.next (Tree.node 7 x a e kids) s).2 (variableM G (entM r i (sortI (allS s))) 3 r.next (Tree.node 7 x a e kids) s).1=Q:=⟨_,rfl⟩
 rw[hQ];have HQ:=kH hQ;clear hq hQ;unfold nodeV
 have hfive:(Tree.node 7 x a e kids).kind=7∧(Tree.node 7 x a e kids).text=x∧(Tree.node 7 x a e kids).at_=a∧(Tree.node 7 x a e kids).end_=e∧(Tree.node 7 x a e kids).kids=kids:=⟨rfl,rfl,rfl,rfl,rfl⟩
 rw[hfive.1,hfive.2.1,hfive.2.2.1,hfive.2.2.2.1,hfive.2.2.2.2,hnk];rw[hfive.2.2.2.2]at hk hcap;rw[hnk]at hcap
 obtain⟨nx,hnx⟩:∃ q,r.next=q:=⟨_,rfl⟩
 have hnb:nx≤1000000:=by have:=hrb.room;have:=hrb.most;omega
 have hnkb:nk≤1000000:=by have h1:=hrb.room;have h2:=hrb.most;have h3:=counts_len kids;rw[countM]at h1;omega
 have c7w:w.cell? ⟨E.rp,7,none⟩=some (.int .i64 (nx:Int)):=by rw[← hnx];exact h.blk.cell 7
 have hrw:=h.blk.lt;have hwn:IntKind.i64.wrap ((nx:Int)+1)=(nx:Int)+1:=IntWalk.i64_in _ (by omega);have hfx:=h.blk.frozen 7;have H:=kH h;have HS:=kH hs;have HK:=kH hk;have HRB:=kH hrb;have HNX:=kH hnx;have HNK:=kH hnk;have HVK:=kH hvk;have HIH:=kH hih;have HCAP:=kH hcap;have HBASE:=kH hbase;clear h hs hk hrb hnx hnk hvk hih hv hfive hcap hbase
 go_enter Tryz.func79,Tryz.ntmps79
 go_upto_if 32 with fail
 generalize hW3:(((w.setCell ⟨E.rp,7,none⟩ (.int .i64 ((nx:Int)+1))).alloc (.cells #[.pointer (some ⟨E.rp,0,none⟩)] 68)).alloc (.cells #[.int .i64 7,.string x,.int .i64 a,.int .i64 e,.slice A nk c] 24))=W3
 obtain⟨hr3,hk3⟩:=H.out.setNext (nx+1) (fun _=>False)
 have hbW:Below w.heap.size (w.setCell ⟨E.rp,7,none⟩ (.int .i64 ((nx:Int)+1))) W3:=by
  rw[← hW3];have h1:=below_alloc (w.setCell ⟨E.rp,7,none⟩ (.int .i64 ((nx:Int)+1))) (.cells #[.pointer (some ⟨E.rp,0,none⟩)] 68);have h2:=below_alloc ((w.setCell ⟨E.rp,7,none⟩ (.int .i64 ((nx:Int)+1))).alloc (.cells #[.pointer (some ⟨E.rp,0,none⟩)] 68)) (.cells #[.int .i64 7,.string x,.int .i64 a,.int .i64 e,.slice A nk c] 24);have h3:=h1.trans (h2.mono (by simp))
  simpa using h3
 have hsz3:W3.heap.size=w.heap.size+2:=by rw[← hW3];simp
 have hn3:Blk W3 (w.heap.size+1) 24 #[.int .i64 7,.string x,.int .i64 a,.int .i64 e,.slice A nk c]:=by
  have:=Blk.new ((w.setCell ⟨E.rp,7,none⟩ (.int .i64 ((nx:Int)+1))).alloc (.cells #[.pointer (some ⟨E.rp,0,none⟩)] 68)) 24 #[.int .i64 7,.string x,.int .i64 a,.int .i64 e,.slice A nk c];rw[hW3]at this
  simpa using this
 have hp3:Blk W3 w.heap.size 68 #[.pointer (some ⟨E.rp,0,none⟩)]:=by
  have:=(Blk.new (w.setCell ⟨E.rp,7,none⟩ (.int .i64 ((nx:Int)+1))) 68 #[.pointer (some ⟨E.rp,0,none⟩)]).alloc (.cells #[.int .i64 7,.string x,.int .i64 a,.int .i64 e,.slice A nk c] 24);rw[hW3]at this
  simpa using this
 have HR3:Hid (RSAt E G { r with next:=nx+1 } V W3):=kH (hr3.below (by simpa using hbW));have HK3:Hid (KX E (fun _=>False) w W3):=kH (hk3.trans (KX.of_below (M:=fun _=>False) (by simpa using hbW)) (fun g hg=>.inl hg));have HS3:Hid (ScAt W3 E.base p s ms):=kH (ScAt.kx HK3.out H.out.notScope HS.out (fun _ _ h=>h));have HN3:=kH hn3;have HP3:=kH hp3;have HSZ3:=kH hsz3;have c5:W3.cell? ⟨E.rp,5,none⟩=some (.map (some E.vi)):=HR3.out.blk.cell 5;have p0:=hp3.cell 0;have lr3:=HR3.out.blk.lt;have lp3:=hp3.lt;clear hW3 hr3 hk3 hbW hn3 hp3 hsz3 c7w hfx
 go_cut [] (fun wx => ∃ Vx,Hid (RSAt E G (entM r i (sortI (allS s))) Vx wx)∧Hid (KX E (fun g=>g=E.vi) W3 wx))
 case first =>
  cases i with
  | false =>
   go_wp2_with fail
   go_meet
   exact⟨V,by have:=HR3.out;rw[← HNX.out]at this;exact kH this,kH (KX.refl _ _ _)⟩
  | true =>
   have hbz:E.base≤W3.heap.size:=Nat.le_trans HBASE.out HK3.out.size;have hall:=all_any E.base s p ms W3.drew (ScAt.below ((Below.refl _ W3).drew) HS3.out) (by have:=HRB.out.all_;have:=HNX.out;omega);have HALL:=kH hall
   have hKS:∀ w':World,Since (fun g=>g=E.vi) W3 w'→w'.cell? ⟨E.rp,5,none⟩=some (.map (some E.vi))∧w'.cell? ⟨w.heap.size,0,none⟩=some (.pointer (some ⟨E.rp,0,none⟩)):=fun w' hw=>by
    have nm:∀ {g:Nat} {t:TypeId} {cs:Array Value},Blk W3 g t cs→g≠E.vi:=fun hb e=>by
     obtain⟨es,ck,ho⟩:=HR3.out.vi.isMap;subst e;have:W3.heap[_]? = some (Obj.cells _ _ (0,0)):=hb;rw[ho]at this
     cases this
    exact⟨(HR3.out.blk.since hw (nm HR3.out.blk)).cell 5,(HP3.out.since hw (nm HP3.out)).cell 0⟩
   have HKS:=kH hKS;have hs0:Since (fun g=>g=E.vi) W3 W3.drew:=(Since.refl _ W3).drew
   have hvn:(nx:Int) ∉ r.vis.map (·.1):=fun hm=>by
    obtain⟨y,hy,he⟩:=List.mem_map.1 hm;have:=HRB.out.vis y hy;have:=HNX.out;omega
   have HVN:=kH hvn;clear hall hKS hvn
   go_wp2_with fail
   go_region_held3 (fun w'=>w'.cell? ⟨E.rp,5,none⟩=some (.map (some E.vi))∧w'.cell? ⟨w.heap.size,0,none⟩=some (.pointer (some ⟨E.rp,0,none⟩))) (exact HKS.out _ (by assumption)) ((go_at_call 145;refine HALL.out.mono ?_;rintro e5 w5 ⟨v5,rfl,ho5,hb5⟩;have hs5:=hs0.below hb5;obtain⟨w6,hrun,hm6,hg6,hz6⟩:=run_mapUpdate_am (P:=Tryz.prog) (KK:=intK) (t:=72) (kt:=3) (et:=28) Tryz.underlying72 Tryz.underlying3 ((AMap.drew HR3.out.vi).beh hb5) (nx:Int) v5;change (Instr.mapUpdate 72 (.map (some E.vi)) (Value.int .i64 (nx:Int)) v5).run Tryz.prog w5=_ at hrun;have hs6:Since (fun g=>g=E.vi) w5 w6:=(Since.refl (fun g=>g=E.vi) w5).grown hg6 (fun k hk=>by cases hk;exact .inl rfl);have hs7:=hs5.trans hs6))
   have hlen:(sortI (allS s)).length=(allS s).length:=List.length_mergeSort _;have hb35:Below W3.heap.size W3 w5:=((Below.refl _ W3).drew).trans hb5;have hnote:=HR3.out.noteVis hbz hb35 (nx:Int) (sortI (allS s)) v5 (by rw[hlen];exact ho5) HVN.out (fun g=>g=E.vi) rfl hm6 hs6;have HNOTE:=kH hnote;clear hnote hs5 hs6 hs7 hz6 hm6 hb35 hb5 ho5 hs0 hrun hg6
   go_wp2_with fail
   go_meet
   exact⟨_,by have:=HNOTE.out.1;rw[← HNX.out]at this;exact kH this,kH HNOTE.out.2⟩
 case rest =>
  obtain⟨Vx,HRX,HKX⟩:=hcut;have HKW:Hid (KX E (fun g=>g=E.vi) w wc):=kH ((HK3.out.mono (fun _ hf=>hf.elim)).trans HKX.out (fun g hg=>.inl hg));have HV:Hid (VW E G B ⟨kids,7,x,a,e,A,nk,c,w.heap.size+1,w.heap.size⟩ w (fun g=>g=E.vi∨ms.head? = some g) (entM r i (sortI (allS s))) Vx s p ms wc):=kH ⟨HRX.out,ScAt.kx HKX.out HR3.out.notScope HS3.out (fun m hm e=>(hsep.apart m hm).2.2.2 e),HR3.out.node_at HKX.out HN3.out,HR3.out.ptr_at HKX.out HP3.out,HKW.out.mono (fun _ h=>.inl h),KidsAt.below ((KX.low HKW.out HBASE.out).mono hB) (Nat.le_refl _) _ _ _ HK.out,Nat.le_trans HBASE.out (KX.low HKW.out HBASE.out).size,hB⟩
  have hlk:=fun q=>lookupOk_lay (wc.drewN q) E.g G.globals (AMap.drewN HRX.out.gl q) x
  obtain⟨gi,hgi⟩:∃ q,(lookL G.globals x).getD 0=q:=⟨_,rfl⟩
  obtain⟨gb,hgb⟩:∃ q,(lookL G.globals x).isSome=q:=⟨_,rfl⟩
  rw[hgi,hgb]at hlk;obtain⟨⟨q0,lp⟩,⟨n0,n1,n2,n3,n4,ln⟩,⟨c0,c1,c2,c8,lr⟩⟩:=HV.out.cells;have HGI:=kH hgi;have HGB:=kH hgb
  have hD:(entM r i (sortI (allS s))).ds.length≤1000000:=by show r.ds.length≤_;have:=HRB.out.ds;have:=HNX.out;omega
  have hP:(entM r i (sortI (allS s))).probs.length≤1000000:=by show r.probs.length≤_;have:=HRB.out.probs;have:=HNX.out;omega
  have hU:nx < (entM r i (sortI (allS s))).uses.length:=by show nx < r.uses.length;have h1:=HRB.out.room;have h2:=HNX.out;rw[countM]at h1;omega
  have HD:=kH hD;have HPR:=kH hP;have HU:=kH hU
  have hqn:∀ u:RS,u.next=r.next+1→u.next≤r.next+1+countsM ((Tree.node 7 x a e kids).kids.take 0):=fun u hu=>by rw[hu];exact Nat.le_add_right _ _
  have HQN:=kH hqn;clear hgi hgb c5 p0 lr3 lp3 hqn hD hP hU c8
  obtain⟨l,s2,hs2⟩:∃ l s2,s=l :: s2:=by
   have:=HVK.out.1
   cases s with
   | nil=>cases this
   | cons l s2=>exact⟨l,s2,rfl⟩
  obtain⟨m,ms2,hms2⟩:∃ m ms2,ms=m :: ms2:=by
   have h1:=HV.out.S;rw[hs2]at h1;obtain⟨b,m,p',ms',h2,h3,-⟩:=h1;exact⟨m,ms',h3⟩
  have hQ2:visitsM G i kids 0 nk (variableM G (entM r i (sortI (allS s))) 3 nx (Tree.node 7 x a e kids) s).2 (variableM G (entM r i (sortI (allS s))) 3 nx (Tree.node 7 x a e kids) s).1=Q:=by
   rw[← HQ.out,HNK.out,← HNX.out]
  have HQ2:=kH hQ2;have HSL:Hid (Slow r (variableM G (entM r i (sortI (allS s))) 3 nx (Tree.node 7 x a e kids) s).1):=kH (by have:=slow_steps.variable_ G r i (sortI (allS s)) 3 (Tree.node 7 x a e kids) s;rw[HNX.out]at this;exact this);have HNE:Hid ((variableM G (entM r i (sortI (allS s))) 3 nx (Tree.node 7 x a e kids) s).1.next=r.next+1):=kH (by have:=varM_next G r i (sortI (allS s)) 3 (Tree.node 7 x a e kids) s;rw[HNX.out]at this ⊢;exact this)
  have hvar:=fun q=>(HV.out.drewN q).variable_ (Tree.node 7 x a e kids) ⟨rfl,rfl,rfl,rfl,rfl⟩ HNK.out HD.out HPR.out 3 nx HU.out l s2 m ms2 (by have:=(HV.out.drewN q).S;rw[hs2,hms2]at this;exact this) (by rw[← hms2];exact hsep) (.inl (.inr (by rw[hms2];rfl)))
  rw[← hs2,← hms2]at hvar;have HVAR:=kH hvar;clear hvar hQ2 hs2 hms2
  go_wp2_with fail
  go_quiet (fail)
  go_wp2_with fail
  refine(HVAR.out _).mono ?_;rintro e8 w8 ⟨rfl,-,V8,h8⟩;obtain⟨⟨q8,lq8⟩,⟨-,-,-,-,n8,ln8⟩,-⟩:=h8.cells;have hcall:=h8.kids HIH.out i 0 nk nk (by omega) HNK.out (by show 0+nk≤nk;omega) HCAP.out (by rw[isEmpty_len (variableM_len G _ 3 nx (Tree.node 7 x a e kids) s)];exact HVK.out.2) (HRB.out.kids (t:=(Tree.node 7 x a e kids)) HSL.out (by have h1:=alls_var G (entM r i (sortI (allS s))) 3 nx (Tree.node 7 x a e kids) s;rw[HNE.out];omega) (HQN.out _ HNE.out)) hsep (fun g hg=>.inl hg);rw[HQ2.out]at hcall;have HC:=kH hcall;clear hcall h8
  go_wp2_with fail
  refine HC.out.mono ?_;rintro e10 w10 ⟨rfl,-,V10,h10⟩;have HE:Hid (∃ V',RSAt E G Q.1 V' w10∧ScAt w10 E.base p Q.2 ms∧KX E (fun g=>g=E.vi∨ms.head? = some g) w w10):=kH h10.end_;clear h10 HC q8 n8
  go_wp2_with fail
  go_end0
  exact⟨rfl,HE.out⟩
end Go.Proofs.YtoepemlnlpamlaaGreat
namespace Go.Proofs.YtoepemlnlpamlaaGreat
set_option maxRecDepth 100000
set_option maxHeartbeats 4000000
open Go.RowKit
theorem visit_varparam (E:RC) (G:Glob) (B:Nat) (hB:B≤E.base) (x:ByteArray) (a e:Int) (kids:List Tree) (hih:∀ k ∈ kids,VisitC E G B k):VisitC E G B (.node 8 x a e kids):=by
 intro i s p ms r V w A c h hs hsep hk hcap hbase hv hrb
 obtain⟨nk,hnk⟩:∃ q,kids.length=q:=⟨_,rfl⟩
 have hvk:s.isEmpty=false∧VOks s.isEmpty kids=true:=by
  rw[VOk,if_neg (by decide),if_neg (by decide),if_pos (by decide)]at hv;simp only[Bool.and_eq_true,Bool.not_eq_true']at hv;exact⟨hv.1.1.1,hv.2⟩
 have hq:visitM G i (Tree.node 8 x a e kids) s r=visitsM G i kids 0 kids.length (variableM G (entM r i (sortI (allS s))) 3 r.next (Tree.node 8 x a e kids) s).2 (variableM G (entM r i (sortI (allS s))) 3 r.next (Tree.node 8 x a e kids) s).1:=by
  rw[visitM_eq,if_neg (by decide),if_neg (by decide),if_neg (by decide),if_pos (by decide)]
 rw[hq]
 obtain⟨Q,hQ⟩:∃ Q,visitsM G i kids 0 kids.length (variableM G (entM r i (sortI (allS s))) 3 r.next (Tree.node 8 x a e kids) s).2 (variableM G (entM r i (sortI (allS s))) 3 r.next (Tree.node 8 x a e kids) s).1=Q:=⟨_,rfl⟩
 rw[hQ];have HQ:=kH hQ;clear hq hQ;unfold nodeV
 have hfive:(Tree.node 8 x a e kids).kind=8∧(Tree.node 8 x a e kids).text=x∧(Tree.node 8 x a e kids).at_=a∧(Tree.node 8 x a e kids).end_=e∧(Tree.node 8 x a e kids).kids=kids:=⟨rfl,rfl,rfl,rfl,rfl⟩
 rw[hfive.1,hfive.2.1,hfive.2.2.1,hfive.2.2.2.1,hfive.2.2.2.2,hnk];rw[hfive.2.2.2.2]at hk hcap;rw[hnk]at hcap
 obtain⟨nx,hnx⟩:∃ q,r.next=q:=⟨_,rfl⟩
 have hnb:nx≤1000000:=by have:=hrb.room;have:=hrb.most;omega
 have hnkb:nk≤1000000:=by have h1:=hrb.room;have h2:=hrb.most;have h3:=counts_len kids;rw[countM]at h1;omega
 have c7w:w.cell? ⟨E.rp,7,none⟩=some (.int .i64 (nx:Int)):=by rw[← hnx];exact h.blk.cell 7
 have hrw:=h.blk.lt;have hwn:IntKind.i64.wrap ((nx:Int)+1)=(nx:Int)+1:=IntWalk.i64_in _ (by omega);have hfx:=h.blk.frozen 7;have H:=kH h;have HS:=kH hs;have HK:=kH hk;have HRB:=kH hrb;have HNX:=kH hnx;have HNK:=kH hnk;have HVK:=kH hvk;have HIH:=kH hih;have HCAP:=kH hcap;have HBASE:=kH hbase;clear h hs hk hrb hnx hnk hvk hih hv hfive hcap hbase
 go_enter Tryz.func79,Tryz.ntmps79
 go_upto_if 32 with fail
 generalize hW3:(((w.setCell ⟨E.rp,7,none⟩ (.int .i64 ((nx:Int)+1))).alloc (.cells #[.pointer (some ⟨E.rp,0,none⟩)] 68)).alloc (.cells #[.int .i64 8,.string x,.int .i64 a,.int .i64 e,.slice A nk c] 24))=W3
 obtain⟨hr3,hk3⟩:=H.out.setNext (nx+1) (fun _=>False)
 have hbW:Below w.heap.size (w.setCell ⟨E.rp,7,none⟩ (.int .i64 ((nx:Int)+1))) W3:=by
  rw[← hW3];have h1:=below_alloc (w.setCell ⟨E.rp,7,none⟩ (.int .i64 ((nx:Int)+1))) (.cells #[.pointer (some ⟨E.rp,0,none⟩)] 68);have h2:=below_alloc ((w.setCell ⟨E.rp,7,none⟩ (.int .i64 ((nx:Int)+1))).alloc (.cells #[.pointer (some ⟨E.rp,0,none⟩)] 68)) (.cells #[.int .i64 8,.string x,.int .i64 a,.int .i64 e,.slice A nk c] 24);have h3:=h1.trans (h2.mono (by simp))
  simpa using h3
 have hsz3:W3.heap.size=w.heap.size+2:=by rw[← hW3];simp
 have hn3:Blk W3 (w.heap.size+1) 24 #[.int .i64 8,.string x,.int .i64 a,.int .i64 e,.slice A nk c]:=by
  have:=Blk.new ((w.setCell ⟨E.rp,7,none⟩ (.int .i64 ((nx:Int)+1))).alloc (.cells #[.pointer (some ⟨E.rp,0,none⟩)] 68)) 24 #[.int .i64 8,.string x,.int .i64 a,.int .i64 e,.slice A nk c];rw[hW3]at this
  simpa using this
 have hp3:Blk W3 w.heap.size 68 #[.pointer (some ⟨E.rp,0,none⟩)]:=by
  have:=(Blk.new (w.setCell ⟨E.rp,7,none⟩ (.int .i64 ((nx:Int)+1))) 68 #[.pointer (some ⟨E.rp,0,none⟩)]).alloc (.cells #[.int .i64 8,.string x,.int .i64 a,.int .i64 e,.slice A nk c] 24);rw[hW3]at this
  simpa using this
 have HR3:Hid (RSAt E G { r with next:=nx+1 } V W3):=kH (hr3.below (by simpa using hbW));have HK3:Hid (KX E (fun _=>False) w W3):=kH (hk3.trans (KX.of_below (M:=fun _=>False) (by simpa using hbW)) (fun g hg=>.inl hg));have HS3:Hid (ScAt W3 E.base p s ms):=kH (ScAt.kx HK3.out H.out.notScope HS.out (fun _ _ h=>h));have HN3:=kH hn3;have HP3:=kH hp3;have HSZ3:=kH hsz3;have c5:W3.cell? ⟨E.rp,5,none⟩=some (.map (some E.vi)):=HR3.out.blk.cell 5;have p0:=hp3.cell 0;have lr3:=HR3.out.blk.lt;have lp3:=hp3.lt;clear hW3 hr3 hk3 hbW hn3 hp3 hsz3 c7w hfx
 go_cut [] (fun wx => ∃ Vx,Hid (RSAt E G (entM r i (sortI (allS s))) Vx wx)∧Hid (KX E (fun g=>g=E.vi) W3 wx))
 case first =>
  cases i with
  | false =>
   go_wp2_with fail
   go_meet
   exact⟨V,by have:=HR3.out;rw[← HNX.out]at this;exact kH this,kH (KX.refl _ _ _)⟩
  | true =>
   have hbz:E.base≤W3.heap.size:=Nat.le_trans HBASE.out HK3.out.size;have hall:=all_any E.base s p ms W3.drew (ScAt.below ((Below.refl _ W3).drew) HS3.out) (by have:=HRB.out.all_;have:=HNX.out;omega);have HALL:=kH hall
   have hKS:∀ w':World,Since (fun g=>g=E.vi) W3 w'→w'.cell? ⟨E.rp,5,none⟩=some (.map (some E.vi))∧w'.cell? ⟨w.heap.size,0,none⟩=some (.pointer (some ⟨E.rp,0,none⟩)):=fun w' hw=>by
    have nm:∀ {g:Nat} {t:TypeId} {cs:Array Value},Blk W3 g t cs→g≠E.vi:=fun hb e=>by
     obtain⟨es,ck,ho⟩:=HR3.out.vi.isMap;subst e;have:W3.heap[_]? = some (Obj.cells _ _ (0,0)):=hb;rw[ho]at this
     cases this
    exact⟨(HR3.out.blk.since hw (nm HR3.out.blk)).cell 5,(HP3.out.since hw (nm HP3.out)).cell 0⟩
   have HKS:=kH hKS;have hs0:Since (fun g=>g=E.vi) W3 W3.drew:=(Since.refl _ W3).drew
   have hvn:(nx:Int) ∉ r.vis.map (·.1):=fun hm=>by
    obtain⟨y,hy,he⟩:=List.mem_map.1 hm;have:=HRB.out.vis y hy;have:=HNX.out;omega
   have HVN:=kH hvn;clear hall hKS hvn
   go_wp2_with fail
   go_region_held3 (fun w'=>w'.cell? ⟨E.rp,5,none⟩=some (.map (some E.vi))∧w'.cell? ⟨w.heap.size,0,none⟩=some (.pointer (some ⟨E.rp,0,none⟩))) (exact HKS.out _ (by assumption)) ((go_at_call 145;refine HALL.out.mono ?_;rintro e5 w5 ⟨v5,rfl,ho5,hb5⟩;have hs5:=hs0.below hb5;obtain⟨w6,hrun,hm6,hg6,hz6⟩:=run_mapUpdate_am (P:=Tryz.prog) (KK:=intK) (t:=72) (kt:=3) (et:=28) Tryz.underlying72 Tryz.underlying3 ((AMap.drew HR3.out.vi).beh hb5) (nx:Int) v5;change (Instr.mapUpdate 72 (.map (some E.vi)) (Value.int .i64 (nx:Int)) v5).run Tryz.prog w5=_ at hrun;have hs6:Since (fun g=>g=E.vi) w5 w6:=(Since.refl (fun g=>g=E.vi) w5).grown hg6 (fun k hk=>by cases hk;exact .inl rfl);have hs7:=hs5.trans hs6))
   have hlen:(sortI (allS s)).length=(allS s).length:=List.length_mergeSort _;have hb35:Below W3.heap.size W3 w5:=((Below.refl _ W3).drew).trans hb5;have hnote:=HR3.out.noteVis hbz hb35 (nx:Int) (sortI (allS s)) v5 (by rw[hlen];exact ho5) HVN.out (fun g=>g=E.vi) rfl hm6 hs6;have HNOTE:=kH hnote;clear hnote hs5 hs6 hs7 hz6 hm6 hb35 hb5 ho5 hs0 hrun hg6
   go_wp2_with fail
   go_meet
   exact⟨_,by have:=HNOTE.out.1;rw[← HNX.out]at this;exact kH this,kH HNOTE.out.2⟩
 case rest =>
  obtain⟨Vx,HRX,HKX⟩:=hcut;have HKW:Hid (KX E (fun g=>g=E.vi) w wc):=kH ((HK3.out.mono (fun _ hf=>hf.elim)).trans HKX.out (fun g hg=>.inl hg));have HV:Hid (VW E G B ⟨kids,8,x,a,e,A,nk,c,w.heap.size+1,w.heap.size⟩ w (fun g=>g=E.vi∨ms.head? = some g) (entM r i (sortI (allS s))) Vx s p ms wc):=kH ⟨HRX.out,ScAt.kx HKX.out HR3.out.notScope HS3.out (fun m hm e=>(hsep.apart m hm).2.2.2 e),HR3.out.node_at HKX.out HN3.out,HR3.out.ptr_at HKX.out HP3.out,HKW.out.mono (fun _ h=>.inl h),KidsAt.below ((KX.low HKW.out HBASE.out).mono hB) (Nat.le_refl _) _ _ _ HK.out,Nat.le_trans HBASE.out (KX.low HKW.out HBASE.out).size,hB⟩
  have hlk:=fun q=>lookupOk_lay (wc.drewN q) E.g G.globals (AMap.drewN HRX.out.gl q) x
  obtain⟨gi,hgi⟩:∃ q,(lookL G.globals x).getD 0=q:=⟨_,rfl⟩
  obtain⟨gb,hgb⟩:∃ q,(lookL G.globals x).isSome=q:=⟨_,rfl⟩
  rw[hgi,hgb]at hlk;obtain⟨⟨q0,lp⟩,⟨n0,n1,n2,n3,n4,ln⟩,⟨c0,c1,c2,c8,lr⟩⟩:=HV.out.cells;have HGI:=kH hgi;have HGB:=kH hgb
  have hD:(entM r i (sortI (allS s))).ds.length≤1000000:=by show r.ds.length≤_;have:=HRB.out.ds;have:=HNX.out;omega
  have hP:(entM r i (sortI (allS s))).probs.length≤1000000:=by show r.probs.length≤_;have:=HRB.out.probs;have:=HNX.out;omega
  have hU:nx < (entM r i (sortI (allS s))).uses.length:=by show nx < r.uses.length;have h1:=HRB.out.room;have h2:=HNX.out;rw[countM]at h1;omega
  have HD:=kH hD;have HPR:=kH hP;have HU:=kH hU
  have hqn:∀ u:RS,u.next=r.next+1→u.next≤r.next+1+countsM ((Tree.node 8 x a e kids).kids.take 0):=fun u hu=>by rw[hu];exact Nat.le_add_right _ _
  have HQN:=kH hqn;clear hgi hgb c5 p0 lr3 lp3 hqn hD hP hU c8
  obtain⟨l,s2,hs2⟩:∃ l s2,s=l :: s2:=by
   have:=HVK.out.1
   cases s with
   | nil=>cases this
   | cons l s2=>exact⟨l,s2,rfl⟩
  obtain⟨m,ms2,hms2⟩:∃ m ms2,ms=m :: ms2:=by
   have h1:=HV.out.S;rw[hs2]at h1;obtain⟨b,m,p',ms',h2,h3,-⟩:=h1;exact⟨m,ms',h3⟩
  have hQ2:visitsM G i kids 0 nk (variableM G (entM r i (sortI (allS s))) 3 nx (Tree.node 8 x a e kids) s).2 (variableM G (entM r i (sortI (allS s))) 3 nx (Tree.node 8 x a e kids) s).1=Q:=by
   rw[← HQ.out,HNK.out,← HNX.out]
  have HQ2:=kH hQ2;have HSL:Hid (Slow r (variableM G (entM r i (sortI (allS s))) 3 nx (Tree.node 8 x a e kids) s).1):=kH (by have:=slow_steps.variable_ G r i (sortI (allS s)) 3 (Tree.node 8 x a e kids) s;rw[HNX.out]at this;exact this);have HNE:Hid ((variableM G (entM r i (sortI (allS s))) 3 nx (Tree.node 8 x a e kids) s).1.next=r.next+1):=kH (by have:=varM_next G r i (sortI (allS s)) 3 (Tree.node 8 x a e kids) s;rw[HNX.out]at this ⊢;exact this)
  have hvar:=fun q=>(HV.out.drewN q).variable_ (Tree.node 8 x a e kids) ⟨rfl,rfl,rfl,rfl,rfl⟩ HNK.out HD.out HPR.out 3 nx HU.out l s2 m ms2 (by have:=(HV.out.drewN q).S;rw[hs2,hms2]at this;exact this) (by rw[← hms2];exact hsep) (.inl (.inr (by rw[hms2];rfl)))
  rw[← hs2,← hms2]at hvar;have HVAR:=kH hvar;clear hvar hQ2 hs2 hms2
  go_wp2_with fail
  go_quiet (fail)
  go_wp2_with fail
  refine(HVAR.out _).mono ?_;rintro e8 w8 ⟨rfl,-,V8,h8⟩;obtain⟨⟨q8,lq8⟩,⟨-,-,-,-,n8,ln8⟩,-⟩:=h8.cells;have hcall:=h8.kids HIH.out i 0 nk nk (by omega) HNK.out (by show 0+nk≤nk;omega) HCAP.out (by rw[isEmpty_len (variableM_len G _ 3 nx (Tree.node 8 x a e kids) s)];exact HVK.out.2) (HRB.out.kids (t:=(Tree.node 8 x a e kids)) HSL.out (by have h1:=alls_var G (entM r i (sortI (allS s))) 3 nx (Tree.node 8 x a e kids) s;rw[HNE.out];omega) (HQN.out _ HNE.out)) hsep (fun g hg=>.inl hg);rw[HQ2.out]at hcall;have HC:=kH hcall;clear hcall h8
  go_wp2_with fail
  refine HC.out.mono ?_;rintro e10 w10 ⟨rfl,-,V10,h10⟩;have HE:Hid (∃ V',RSAt E G Q.1 V' w10∧ScAt w10 E.base p Q.2 ms∧KX E (fun g=>g=E.vi∨ms.head? = some g) w w10):=kH h10.end_;clear h10 HC q8 n8
  go_wp2_with fail
  go_end0
  exact⟨rfl,HE.out⟩
end Go.Proofs.YtoepemlnlpamlaaGreat
namespace Go.Proofs.YtoepemlnlpamlaaGreat
set_option maxRecDepth 100000
set_option maxHeartbeats 4000000
open Go.RowKit
theorem visit_block (E:RC) (G:Glob) (B:Nat) (hB:B≤E.base) (x:ByteArray) (a e:Int) (kids:List Tree) (hih:∀ k ∈ kids,VisitC E G B k):VisitC E G B (.node 11 x a e kids):=by
 intro i s p ms r V w A c h hs hsep hk hcap hbase hv hrb
 obtain⟨nk,hnk⟩:∃ q,kids.length=q:=⟨_,rfl⟩
 have hvk:VOks false kids=true:=by
  rw[VOk,if_neg (by decide),if_pos rfl]at hv;exact hv
 have hq:visitM G i (Tree.node 11 x a e kids) s r=((visitsM G i kids 0 kids.length ([] :: s) (entM r i (sortI (allS s)))).1,(visitsM G i kids 0 kids.length ([] :: s) (entM r i (sortI (allS s)))).2.tail):=by
  rw[visitM_eq,if_neg (by decide),if_neg (by decide),if_neg (by decide),if_neg (by decide),if_pos rfl]
 rw[hq]
 obtain⟨Q,hQ⟩:∃ Q,((visitsM G i kids 0 kids.length ([] :: s) (entM r i (sortI (allS s)))).1,(visitsM G i kids 0 kids.length ([] :: s) (entM r i (sortI (allS s)))).2.tail)=Q:=⟨_,rfl⟩
 rw[hQ];have HQ:=kH hQ;clear hq hQ;unfold nodeV
 have hfive:(Tree.node 11 x a e kids).kind=11∧(Tree.node 11 x a e kids).text=x∧(Tree.node 11 x a e kids).at_=a∧(Tree.node 11 x a e kids).end_=e∧(Tree.node 11 x a e kids).kids=kids:=⟨rfl,rfl,rfl,rfl,rfl⟩
 rw[hfive.1,hfive.2.1,hfive.2.2.1,hfive.2.2.2.1,hfive.2.2.2.2,hnk];rw[hfive.2.2.2.2]at hk hcap;rw[hnk]at hcap
 obtain⟨nx,hnx⟩:∃ q,r.next=q:=⟨_,rfl⟩
 have hnb:nx≤1000000:=by have:=hrb.room;have:=hrb.most;omega
 have hnkb:nk≤1000000:=by have h1:=hrb.room;have h2:=hrb.most;have h3:=counts_len kids;rw[countM]at h1;omega
 have c7w:w.cell? ⟨E.rp,7,none⟩=some (.int .i64 (nx:Int)):=by rw[← hnx];exact h.blk.cell 7
 have hrw:=h.blk.lt;have hwn:IntKind.i64.wrap ((nx:Int)+1)=(nx:Int)+1:=IntWalk.i64_in _ (by omega);have hfx:=h.blk.frozen 7;have H:=kH h;have HS:=kH hs;have HK:=kH hk;have HRB:=kH hrb;have HNX:=kH hnx;have HNK:=kH hnk;have HVK:=kH hvk;have HIH:=kH hih;have HCAP:=kH hcap;have HBASE:=kH hbase;clear h hs hk hrb hnx hnk hvk hih hv hfive hcap hbase
 go_enter Tryz.func79,Tryz.ntmps79
 go_upto_if 32 with fail
 generalize hW3:(((w.setCell ⟨E.rp,7,none⟩ (.int .i64 ((nx:Int)+1))).alloc (.cells #[.pointer (some ⟨E.rp,0,none⟩)] 68)).alloc (.cells #[.int .i64 11,.string x,.int .i64 a,.int .i64 e,.slice A nk c] 24))=W3
 obtain⟨hr3,hk3⟩:=H.out.setNext (nx+1) (fun _=>False)
 have hbW:Below w.heap.size (w.setCell ⟨E.rp,7,none⟩ (.int .i64 ((nx:Int)+1))) W3:=by
  rw[← hW3];have h1:=below_alloc (w.setCell ⟨E.rp,7,none⟩ (.int .i64 ((nx:Int)+1))) (.cells #[.pointer (some ⟨E.rp,0,none⟩)] 68);have h2:=below_alloc ((w.setCell ⟨E.rp,7,none⟩ (.int .i64 ((nx:Int)+1))).alloc (.cells #[.pointer (some ⟨E.rp,0,none⟩)] 68)) (.cells #[.int .i64 11,.string x,.int .i64 a,.int .i64 e,.slice A nk c] 24);have h3:=h1.trans (h2.mono (by simp))
  simpa using h3
 have hsz3:W3.heap.size=w.heap.size+2:=by rw[← hW3];simp
 have hn3:Blk W3 (w.heap.size+1) 24 #[.int .i64 11,.string x,.int .i64 a,.int .i64 e,.slice A nk c]:=by
  have:=Blk.new ((w.setCell ⟨E.rp,7,none⟩ (.int .i64 ((nx:Int)+1))).alloc (.cells #[.pointer (some ⟨E.rp,0,none⟩)] 68)) 24 #[.int .i64 11,.string x,.int .i64 a,.int .i64 e,.slice A nk c];rw[hW3]at this
  simpa using this
 have hp3:Blk W3 w.heap.size 68 #[.pointer (some ⟨E.rp,0,none⟩)]:=by
  have:=(Blk.new (w.setCell ⟨E.rp,7,none⟩ (.int .i64 ((nx:Int)+1))) 68 #[.pointer (some ⟨E.rp,0,none⟩)]).alloc (.cells #[.int .i64 11,.string x,.int .i64 a,.int .i64 e,.slice A nk c] 24);rw[hW3]at this
  simpa using this
 have HR3:Hid (RSAt E G { r with next:=nx+1 } V W3):=kH (hr3.below (by simpa using hbW));have HK3:Hid (KX E (fun _=>False) w W3):=kH (hk3.trans (KX.of_below (M:=fun _=>False) (by simpa using hbW)) (fun g hg=>.inl hg));have HS3:Hid (ScAt W3 E.base p s ms):=kH (ScAt.kx HK3.out H.out.notScope HS.out (fun _ _ h=>h));have HN3:=kH hn3;have HP3:=kH hp3;have HSZ3:=kH hsz3;have c5:W3.cell? ⟨E.rp,5,none⟩=some (.map (some E.vi)):=HR3.out.blk.cell 5;have p0:=hp3.cell 0;have lr3:=HR3.out.blk.lt;have lp3:=hp3.lt;clear hW3 hr3 hk3 hbW hn3 hp3 hsz3 c7w hfx
 go_cut [] (fun wx => ∃ Vx,Hid (RSAt E G (entM r i (sortI (allS s))) Vx wx)∧Hid (KX E (fun g=>g=E.vi) W3 wx))
 case first =>
  cases i with
  | false =>
   go_wp2_with fail
   go_meet
   exact⟨V,by have:=HR3.out;rw[← HNX.out]at this;exact kH this,kH (KX.refl _ _ _)⟩
  | true =>
   have hbz:E.base≤W3.heap.size:=Nat.le_trans HBASE.out HK3.out.size;have hall:=all_any E.base s p ms W3.drew (ScAt.below ((Below.refl _ W3).drew) HS3.out) (by have:=HRB.out.all_;have:=HNX.out;omega);have HALL:=kH hall
   have hKS:∀ w':World,Since (fun g=>g=E.vi) W3 w'→w'.cell? ⟨E.rp,5,none⟩=some (.map (some E.vi))∧w'.cell? ⟨w.heap.size,0,none⟩=some (.pointer (some ⟨E.rp,0,none⟩)):=fun w' hw=>by
    have nm:∀ {g:Nat} {t:TypeId} {cs:Array Value},Blk W3 g t cs→g≠E.vi:=fun hb e=>by
     obtain⟨es,ck,ho⟩:=HR3.out.vi.isMap;subst e;have:W3.heap[_]? = some (Obj.cells _ _ (0,0)):=hb;rw[ho]at this
     cases this
    exact⟨(HR3.out.blk.since hw (nm HR3.out.blk)).cell 5,(HP3.out.since hw (nm HP3.out)).cell 0⟩
   have HKS:=kH hKS;have hs0:Since (fun g=>g=E.vi) W3 W3.drew:=(Since.refl _ W3).drew
   have hvn:(nx:Int) ∉ r.vis.map (·.1):=fun hm=>by
    obtain⟨y,hy,he⟩:=List.mem_map.1 hm;have:=HRB.out.vis y hy;have:=HNX.out;omega
   have HVN:=kH hvn;clear hall hKS hvn
   go_wp2_with fail
   go_region_held3 (fun w'=>w'.cell? ⟨E.rp,5,none⟩=some (.map (some E.vi))∧w'.cell? ⟨w.heap.size,0,none⟩=some (.pointer (some ⟨E.rp,0,none⟩))) (exact HKS.out _ (by assumption)) ((go_at_call 145;refine HALL.out.mono ?_;rintro e5 w5 ⟨v5,rfl,ho5,hb5⟩;have hs5:=hs0.below hb5;obtain⟨w6,hrun,hm6,hg6,hz6⟩:=run_mapUpdate_am (P:=Tryz.prog) (KK:=intK) (t:=72) (kt:=3) (et:=28) Tryz.underlying72 Tryz.underlying3 ((AMap.drew HR3.out.vi).beh hb5) (nx:Int) v5;change (Instr.mapUpdate 72 (.map (some E.vi)) (Value.int .i64 (nx:Int)) v5).run Tryz.prog w5=_ at hrun;have hs6:Since (fun g=>g=E.vi) w5 w6:=(Since.refl (fun g=>g=E.vi) w5).grown hg6 (fun k hk=>by cases hk;exact .inl rfl);have hs7:=hs5.trans hs6))
   have hlen:(sortI (allS s)).length=(allS s).length:=List.length_mergeSort _;have hb35:Below W3.heap.size W3 w5:=((Below.refl _ W3).drew).trans hb5;have hnote:=HR3.out.noteVis hbz hb35 (nx:Int) (sortI (allS s)) v5 (by rw[hlen];exact ho5) HVN.out (fun g=>g=E.vi) rfl hm6 hs6;have HNOTE:=kH hnote;clear hnote hs5 hs6 hs7 hz6 hm6 hb35 hb5 ho5 hs0 hrun hg6
   go_wp2_with fail
   go_meet
   exact⟨_,by have:=HNOTE.out.1;rw[← HNX.out]at this;exact kH this,kH HNOTE.out.2⟩
 case rest =>
  obtain⟨Vx,HRX,HKX⟩:=hcut;have HKW:Hid (KX E (fun g=>g=E.vi) w wc):=kH ((HK3.out.mono (fun _ hf=>hf.elim)).trans HKX.out (fun g hg=>.inl hg));have HV:Hid (VW E G B ⟨kids,11,x,a,e,A,nk,c,w.heap.size+1,w.heap.size⟩ w (fun g=>g=E.vi∨ms.head? = some g) (entM r i (sortI (allS s))) Vx s p ms wc):=kH ⟨HRX.out,ScAt.kx HKX.out HR3.out.notScope HS3.out (fun m hm e=>(hsep.apart m hm).2.2.2 e),HR3.out.node_at HKX.out HN3.out,HR3.out.ptr_at HKX.out HP3.out,HKW.out.mono (fun _ h=>.inl h),KidsAt.below ((KX.low HKW.out HBASE.out).mono hB) (Nat.le_refl _) _ _ _ HK.out,Nat.le_trans HBASE.out (KX.low HKW.out HBASE.out).size,hB⟩
  have hlk:=fun q=>lookupOk_lay (wc.drewN q) E.g G.globals (AMap.drewN HRX.out.gl q) x
  obtain⟨gi,hgi⟩:∃ q,(lookL G.globals x).getD 0=q:=⟨_,rfl⟩
  obtain⟨gb,hgb⟩:∃ q,(lookL G.globals x).isSome=q:=⟨_,rfl⟩
  rw[hgi,hgb]at hlk;obtain⟨⟨q0,lp⟩,⟨n0,n1,n2,n3,n4,ln⟩,⟨c0,c1,c2,c8,lr⟩⟩:=HV.out.cells;have HGI:=kH hgi;have HGB:=kH hgb
  have hD:(entM r i (sortI (allS s))).ds.length≤1000000:=by show r.ds.length≤_;have:=HRB.out.ds;have:=HNX.out;omega
  have hP:(entM r i (sortI (allS s))).probs.length≤1000000:=by show r.probs.length≤_;have:=HRB.out.probs;have:=HNX.out;omega
  have hU:nx < (entM r i (sortI (allS s))).uses.length:=by show nx < r.uses.length;have h1:=HRB.out.room;have h2:=HNX.out;rw[countM]at h1;omega
  have HD:=kH hD;have HPR:=kH hP;have HU:=kH hU
  have hqn:∀ u:RS,u.next=r.next+1→u.next≤r.next+1+countsM ((Tree.node 11 x a e kids).kids.take 0):=fun u hu=>by rw[hu];exact Nat.le_add_right _ _
  have HQN:=kH hqn;clear hgi hgb c5 p0 lr3 lp3 hqn hD hP hU c8
  obtain⟨Q1,hQ1⟩:∃ Q1,visitsM G i kids 0 nk ([] :: s) (entM r i (sortI (allS s)))=Q1:=⟨_,rfl⟩
  have hQ2:(Q1.1,Q1.2.tail)=Q:=by rw[← HQ.out,← hQ1,HNK.out]
  have HQ1:=kH hQ1;have HQ2:=kH hQ2
  have hin:=fun q=>(HV.out.drewN q).inner_ (HV.out.drewN q).S hsep
  have HIN:=kH hin;clear hin hQ1 hQ2
  go_wp2_with fail
  go_quiet (fail)
  go_wp2_with fail
  refine(HIN.out _).mono ?_;rintro e8 w8 ⟨b,m,rfl,hm,hb,ham,hs8,hsep8,hbel,h8⟩;have hm1:w.heap.size≤m:=Nat.le_trans HKW.out.size hm;have h9:=h8.other hs8;obtain⟨⟨q8,lq8⟩,⟨-,-,-,-,n8,ln8⟩,-⟩:=h9.cells
  have hcall:=h9.kids HIH.out i 0 nk nk (by omega) HNK.out (by show 0+nk≤nk;omega) HCAP.out HVK.out (HRB.out.kids (t:=(Tree.node 11 x a e kids)) (slow_steps.none_ r i _) (by rw[alls_cons];show 0+(allS s).length+r.next≤(allS s).length+(r.next+1);omega) (HQN.out _ rfl)) hsep8 (fun g hg=>by
   rcases hg with hg | hg
   ·exact .inl (.inl hg)
   ·exact .inr (by simp at hg;omega))
  rw[HQ1.out]at hcall;have HC:=kH hcall;have HB:=kH hb;have H9:=kH h9;clear hcall h8 h9 hb hs8 hsep8 hbel ham hm
  go_wp2_with fail
  refine HC.out.mono ?_;rintro e10 w10 ⟨rfl,k10,V10,h10⟩
  have HE:Hid (∃ V',RSAt E G Q.1 V' w10∧ScAt w10 E.base p Q.2 ms∧KX E (fun g=>g=E.vi∨ms.head? = some g) w w10):=kH (by
   rw[← HQ2.out]
   exact(h10.other (ScAt.tail h10.S (H9.out.scope_at k10 HB.out))).end_)
  clear h10 HC q8 n8 k10
  go_wp2_with fail
  go_end0
  exact⟨rfl,HE.out⟩
end Go.Proofs.YtoepemlnlpamlaaGreat
namespace Go.Proofs.YtoepemlnlpamlaaGreat
set_option maxRecDepth 100000
set_option maxHeartbeats 4000000
open Go.RowKit
section
variable {E:RC} {G:Glob} {B:Nat} {N:NB} {w0 w w1 w':World} {M M2:Nat→Prop} {r r':RS} {V V':RV} {s:Scope} {p:Option Addr} {ms:List Nat}
theorem VW.outer (h:VW E G B N w0 M r V s p ms w) (hsep:Sep E ms) (hb:Below w.heap.size w w1) (hk:KX E M2 w1 w') (hr:RSAt E G r' V' w') (hM2:∀ g,M2 g→g=E.vi∨w.heap.size≤g) (hvi:M E.vi):VW E G B N w0 M r' V' s p ms w':=by
 have hk1:KX E M2 w w':=(KX.of_below (M:=M2) hb).trans hk (fun g hg=>.inl hg);refine h.stepS hk1 hr (fun m hm hg=>?_) (fun g hg=>?_)
 ·rcases hM2 m hg with e | e
  ·exact(hsep.apart m hm).2.2.2 e
  ·have:=ScAt.lt h.S m hm
   omega
 ·rcases hM2 g hg with rfl | e
  ·exact .inl hvi
  ·exact .inr (Nat.le_trans h.K.size e)
theorem VW.store {l l2:Lay} {m:Nat} (h:VW E G B N w0 M r V (l :: s) p (m :: ms) w) (hsep:Sep E (m :: ms)) (hs:Since (fun g=>g=m) w w') (hm:AMap strK w' m (layV l2)) (hM:M m∨w0.heap.size≤m):VW E G B N w0 M r V (l2 :: s) p (m :: ms) w':=by
 obtain⟨b,m',p2,ms',rfl,h2,h3,h4,h5,h6,h7⟩:=h.S;simp only[List.cons.injEq]at h2;obtain⟨rfl,rfl⟩:=h2;have hma:=h6.isMap;have hsepm:=hsep.apart m (by simp);have hnd:=List.nodup_cons.1 hsep.nodup;have km:KX E (fun g=>g=m) w w':=KX.map_ hs rfl h4 hma;refine h.step km (h.R.map_ hs hsepm hma) ⟨b,m,p2,ms,rfl,rfl,h3,h4,?_,hm,?_⟩ (fun g hg=>by rw[hg];exact hM)
 ·refine h5.since hs (fun e=>?_)
  obtain⟨es,ck,ho⟩:=hma;subst e;have:w.heap[b]? = some (Obj.cells _ _ (0,0)):=h5;rw[ho]at this
  cases this
 ·exact ScAt.kx km h.R.notScope h7 (fun g hg e=>hnd.1 (by rw[← e];exact hg))
theorem var_two (G:Glob) (r:RS) (c:Int) (n:Nat) (t:Tree) (s:Scope):∃ l,(variableM G r c n t ([] :: s)).2=l :: s∧l.length≤1:=by
 unfold variableM;split
 ·exact⟨[],rfl,Nat.zero_le _⟩
 ·exact⟨[(t.text,(n:Int))],rfl,Nat.le_refl _⟩
end
theorem bytes_eq {a b:ByteArray} (h:a.data.toList=b.data.toList):a=b:=by
 obtain⟨a⟩:=a;obtain⟨b⟩:=b;have:a=b:=Array.toList_inj.1 h;rw[this]
theorem wpHG_call {P:Program} {ops:Array Oper} {Q:Exit→Act→World→Prop} {S:World→Prop} {ex:List Nat} {k:Nat} {ss:List Bool} {o:Oper} {rest:List Oper} {a:Act} {w:World} {f:FuncId} {args:Array Value} (hg:Region.wanted o (yielded ops a.tmps)=true)
 (hr:(execOp a.eval o).run P w = .ok (.enter f args) w) (h:Calls P f args w fun e w' => ∃ v,e = .returned v∧(ex.contains k=false→S w')∧wpHG P ops Q S ex (k+1) ss rest (a.put o.dst v) w'):wpHG P ops Q S ex k (false :: ss) (o :: rest) a w :=
 ⟨hg,by unfold Oper.wp;rw[hr];exact h.mono (fun e w' ⟨v,he,h1,h2⟩=>by subst he;exact⟨h1,h2⟩)⟩
end Go.Proofs.YtoepemlnlpamlaaGreat
