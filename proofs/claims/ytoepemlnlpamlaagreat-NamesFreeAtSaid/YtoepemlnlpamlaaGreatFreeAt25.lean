/- The law NamesFreeAt holds: for every text and every number the law returns true, and its arguments read as before. No condition. Part 25: VisC0 VisC1. -/
import Derived.Test.YtoepemlnlpamlaaGreatFreeAt24
namespace Go.Proofs.YtoepemlnlpamlaaGreat
set_option maxRecDepth 100000
set_option maxHeartbeats 4000000
open Go.RowKit
theorem visit_proc (E:RC) (G:Glob) (B:Nat) (hB:B≤E.base) (x:ByteArray) (a e:Int) (kids:List Tree) (hih:∀ k ∈ kids,VisitC E G B k):VisitC E G B (.node 5 x a e kids):=by
 intro i s p ms r V w A c h hs hsep hk hcap hbase hv hrb
 obtain⟨nk,hnk⟩:∃ q,kids.length=q:=⟨_,rfl⟩
 have hvk:kids.length=3∧VOks false kids=true:=by
  rw[VOk,if_pos rfl]at hv;simp only[Bool.and_eq_true,decide_eq_true_eq]at hv;exact hv
 have hq:visitM G i (Tree.node 5 x a e kids) s r=((visitsM G true kids 2 1 ([] ::(visitsM G false kids 0 2 [[]] { declareM (entM r i (sortI (allS s))) 2 r.next (Tree.node 5 x a e kids) (decide ((layM G.globals x).getD 0≠(r.next:Int))) with owner:=(r.next:Int) }).2) (visitsM G false kids 0 2 [[]] { declareM (entM r i (sortI (allS s))) 2 r.next (Tree.node 5 x a e kids) (decide ((layM G.globals x).getD 0≠(r.next:Int))) with owner:=(r.next:Int) }).1).1,s):=by
  rw[visitM_eq,if_neg (by decide),if_neg (by decide),if_pos rfl]
 rw[hq]
 obtain⟨Q,hQ⟩:∃ Q,((visitsM G true kids 2 1 ([] ::(visitsM G false kids 0 2 [[]] { declareM (entM r i (sortI (allS s))) 2 r.next (Tree.node 5 x a e kids) (decide ((layM G.globals x).getD 0≠(r.next:Int))) with owner:=(r.next:Int) }).2) (visitsM G false kids 0 2 [[]] { declareM (entM r i (sortI (allS s))) 2 r.next (Tree.node 5 x a e kids) (decide ((layM G.globals x).getD 0≠(r.next:Int))) with owner:=(r.next:Int) }).1).1,s)=Q:=⟨_,rfl⟩
 rw[hQ];have HQ:=kH hQ;clear hq hQ;unfold nodeV
 have hfive:(Tree.node 5 x a e kids).kind=5∧(Tree.node 5 x a e kids).text=x∧(Tree.node 5 x a e kids).at_=a∧(Tree.node 5 x a e kids).end_=e∧(Tree.node 5 x a e kids).kids=kids:=⟨rfl,rfl,rfl,rfl,rfl⟩
 rw[hfive.1,hfive.2.1,hfive.2.2.1,hfive.2.2.2.1,hfive.2.2.2.2,hnk];rw[hfive.2.2.2.2]at hk hcap;rw[hnk]at hcap
 obtain⟨nx,hnx⟩:∃ q,r.next=q:=⟨_,rfl⟩
 have hnb:nx≤1000000:=by have:=hrb.room;have:=hrb.most;omega
 have hnkb:nk≤1000000:=by have h1:=hrb.room;have h2:=hrb.most;have h3:=counts_len kids;rw[countM]at h1;omega
 have c7w:w.cell? ⟨E.rp,7,none⟩=some (.int .i64 (nx:Int)):=by rw[← hnx];exact h.blk.cell 7
 have hrw:=h.blk.lt;have hwn:IntKind.i64.wrap ((nx:Int)+1)=(nx:Int)+1:=IntWalk.i64_in _ (by omega);have hfx:=h.blk.frozen 7;have H:=kH h;have HS:=kH hs;have HK:=kH hk;have HRB:=kH hrb;have HNX:=kH hnx;have HNK:=kH hnk;have HVK:=kH hvk;have HIH:=kH hih;have HCAP:=kH hcap;have HBASE:=kH hbase;clear h hs hk hrb hnx hnk hvk hih hv hfive hcap hbase
 go_enter Tryz.func79,Tryz.ntmps79
 go_upto_if 32 with fail
 generalize hW3:(((w.setCell ⟨E.rp,7,none⟩ (.int .i64 ((nx:Int)+1))).alloc (.cells #[.pointer (some ⟨E.rp,0,none⟩)] 68)).alloc (.cells #[.int .i64 5,.string x,.int .i64 a,.int .i64 e,.slice A nk c] 24))=W3
 obtain⟨hr3,hk3⟩:=H.out.setNext (nx+1) (fun _=>False)
 have hbW:Below w.heap.size (w.setCell ⟨E.rp,7,none⟩ (.int .i64 ((nx:Int)+1))) W3:=by
  rw[← hW3];have h1:=below_alloc (w.setCell ⟨E.rp,7,none⟩ (.int .i64 ((nx:Int)+1))) (.cells #[.pointer (some ⟨E.rp,0,none⟩)] 68);have h2:=below_alloc ((w.setCell ⟨E.rp,7,none⟩ (.int .i64 ((nx:Int)+1))).alloc (.cells #[.pointer (some ⟨E.rp,0,none⟩)] 68)) (.cells #[.int .i64 5,.string x,.int .i64 a,.int .i64 e,.slice A nk c] 24);have h3:=h1.trans (h2.mono (by simp))
  simpa using h3
 have hsz3:W3.heap.size=w.heap.size+2:=by rw[← hW3];simp
 have hn3:Blk W3 (w.heap.size+1) 24 #[.int .i64 5,.string x,.int .i64 a,.int .i64 e,.slice A nk c]:=by
  have:=Blk.new ((w.setCell ⟨E.rp,7,none⟩ (.int .i64 ((nx:Int)+1))).alloc (.cells #[.pointer (some ⟨E.rp,0,none⟩)] 68)) 24 #[.int .i64 5,.string x,.int .i64 a,.int .i64 e,.slice A nk c];rw[hW3]at this
  simpa using this
 have hp3:Blk W3 w.heap.size 68 #[.pointer (some ⟨E.rp,0,none⟩)]:=by
  have:=(Blk.new (w.setCell ⟨E.rp,7,none⟩ (.int .i64 ((nx:Int)+1))) 68 #[.pointer (some ⟨E.rp,0,none⟩)]).alloc (.cells #[.int .i64 5,.string x,.int .i64 a,.int .i64 e,.slice A nk c] 24);rw[hW3]at this
  simpa using this
 have HR3:Hid (RSAt E G { r with next:=nx+1 } V W3):=kH (hr3.below (by simpa using hbW));have HK3:Hid (KX E (fun _=>False) w W3):=kH (hk3.trans (KX.of_below (M:=fun _=>False) (by simpa using hbW)) (fun g hg=>.inl hg));have HS3:Hid (ScAt W3 E.base p s ms):=kH (ScAt.kx HK3.out H.out.notScope HS.out (fun _ _ h=>h));have HN3:=kH hn3;have HP3:=kH hp3;have HSZ3:=kH hsz3;have c5:W3.cell? ⟨E.rp,5,none⟩=some (.map (some E.vi)):=HR3.out.blk.cell 5;have p0:=hp3.cell 0;have lr3:=HR3.out.blk.lt;have lp3:=hp3.lt;clear hW3 hr3 hk3 hbW hn3 hp3 hsz3 c7w hfx
 go_cut [] (fun wx => ∃ Vx,Hid (RSAt E G (entM r i (sortI (allS s))) Vx wx)∧Hid (KX E (fun g=>g=E.vi) W3 wx))
 case first =>
  cases i with
  | false =>
   go_wp2_with fail
   go_meet
   exact⟨V,by have:=HR3.out;rw[← HNX.out]at this;exact kH this,kH (KX.refl _ _ _)⟩
  | true =>
   have hbz:E.base≤W3.heap.size:=Nat.le_trans HBASE.out HK3.out.size;have hall:=all_any E.base s p ms W3.drew (ScAt.below ((Below.refl _ W3).drew) HS3.out) (by have:=HRB.out.all_;have:=HNX.out;omega);have HALL:=kH hall
   have hKS:∀ w':World,Since (fun g=>g=E.vi) W3 w'→w'.cell? ⟨E.rp,5,none⟩=some (.map (some E.vi))∧w'.cell? ⟨w.heap.size,0,none⟩=some (.pointer (some ⟨E.rp,0,none⟩)):=fun w' hw=>by
    have nm:∀ {g:Nat} {t:TypeId} {cs:Array Value},Blk W3 g t cs→g≠E.vi:=fun hb e=>by
     obtain⟨es,ck,ho⟩:=HR3.out.vi.isMap;subst e;have:W3.heap[_]? = some (Obj.cells _ _ (0,0)):=hb;rw[ho]at this
     cases this
    exact⟨(HR3.out.blk.since hw (nm HR3.out.blk)).cell 5,(HP3.out.since hw (nm HP3.out)).cell 0⟩
   have HKS:=kH hKS;have hs0:Since (fun g=>g=E.vi) W3 W3.drew:=(Since.refl _ W3).drew
   have hvn:(nx:Int) ∉ r.vis.map (·.1):=fun hm=>by
    obtain⟨y,hy,he⟩:=List.mem_map.1 hm;have:=HRB.out.vis y hy;have:=HNX.out;omega
   have HVN:=kH hvn;clear hall hKS hvn
   go_wp2_with fail
   go_region_held3 (fun w'=>w'.cell? ⟨E.rp,5,none⟩=some (.map (some E.vi))∧w'.cell? ⟨w.heap.size,0,none⟩=some (.pointer (some ⟨E.rp,0,none⟩))) (exact HKS.out _ (by assumption)) ((go_at_call 145;refine HALL.out.mono ?_;rintro e5 w5 ⟨v5,rfl,ho5,hb5⟩;have hs5:=hs0.below hb5;obtain⟨w6,hrun,hm6,hg6,hz6⟩:=run_mapUpdate_am (P:=Tryz.prog) (KK:=intK) (t:=72) (kt:=3) (et:=28) Tryz.underlying72 Tryz.underlying3 ((AMap.drew HR3.out.vi).beh hb5) (nx:Int) v5;change (Instr.mapUpdate 72 (.map (some E.vi)) (Value.int .i64 (nx:Int)) v5).run Tryz.prog w5=_ at hrun;have hs6:Since (fun g=>g=E.vi) w5 w6:=(Since.refl (fun g=>g=E.vi) w5).grown hg6 (fun k hk=>by cases hk;exact .inl rfl);have hs7:=hs5.trans hs6))
   have hlen:(sortI (allS s)).length=(allS s).length:=List.length_mergeSort _;have hb35:Below W3.heap.size W3 w5:=((Below.refl _ W3).drew).trans hb5;have hnote:=HR3.out.noteVis hbz hb35 (nx:Int) (sortI (allS s)) v5 (by rw[hlen];exact ho5) HVN.out (fun g=>g=E.vi) rfl hm6 hs6;have HNOTE:=kH hnote;clear hnote hs5 hs6 hs7 hz6 hm6 hb35 hb5 ho5 hs0 hrun hg6
   go_wp2_with fail
   go_meet
   exact⟨_,by have:=HNOTE.out.1;rw[← HNX.out]at this;exact kH this,kH HNOTE.out.2⟩
 case rest =>
  obtain⟨Vx,HRX,HKX⟩:=hcut;have HKW:Hid (KX E (fun g=>g=E.vi) w wc):=kH ((HK3.out.mono (fun _ hf=>hf.elim)).trans HKX.out (fun g hg=>.inl hg));have HV:Hid (VW E G B ⟨kids,5,x,a,e,A,nk,c,w.heap.size+1,w.heap.size⟩ w (fun g=>g=E.vi∨ms.head? = some g) (entM r i (sortI (allS s))) Vx s p ms wc):=kH ⟨HRX.out,ScAt.kx HKX.out HR3.out.notScope HS3.out (fun m hm e=>(hsep.apart m hm).2.2.2 e),HR3.out.node_at HKX.out HN3.out,HR3.out.ptr_at HKX.out HP3.out,HKW.out.mono (fun _ h=>.inl h),KidsAt.below ((KX.low HKW.out HBASE.out).mono hB) (Nat.le_refl _) _ _ _ HK.out,Nat.le_trans HBASE.out (KX.low HKW.out HBASE.out).size,hB⟩
  have hlk:=fun q=>lookupOk_lay (wc.drewN q) E.g G.globals (AMap.drewN HRX.out.gl q) x
  obtain⟨gi,hgi⟩:∃ q,(lookL G.globals x).getD 0=q:=⟨_,rfl⟩
  obtain⟨gb,hgb⟩:∃ q,(lookL G.globals x).isSome=q:=⟨_,rfl⟩
  rw[hgi,hgb]at hlk;obtain⟨⟨q0,lp⟩,⟨n0,n1,n2,n3,n4,ln⟩,⟨c0,c1,c2,c8,lr⟩⟩:=HV.out.cells;have HGI:=kH hgi;have HGB:=kH hgb
  have hD:(entM r i (sortI (allS s))).ds.length≤1000000:=by show r.ds.length≤_;have:=HRB.out.ds;have:=HNX.out;omega
  have hP:(entM r i (sortI (allS s))).probs.length≤1000000:=by show r.probs.length≤_;have:=HRB.out.probs;have:=HNX.out;omega
  have hU:nx < (entM r i (sortI (allS s))).uses.length:=by show nx < r.uses.length;have h1:=HRB.out.room;have h2:=HNX.out;rw[countM]at h1;omega
  have HD:=kH hD;have HPR:=kH hP;have HU:=kH hU
  have hqn:∀ u:RS,u.next=r.next+1→u.next≤r.next+1+countsM ((Tree.node 5 x a e kids).kids.take 0):=fun u hu=>by rw[hu];exact Nat.le_add_right _ _
  have HQN:=kH hqn;clear hgi hgb c5 p0 lr3 lp3 hqn hD hP hU c8
  obtain⟨D,hDD⟩:∃ D:RS,({ declareM (entM r i (sortI (allS s))) 2 nx (Tree.node 5 x a e kids) (gi !=(nx:Int)) with owner:=(nx:Int) }:RS)=D:=⟨_,rfl⟩
  obtain⟨X,hX⟩:∃ X,visitsM G false kids 0 2 [[]] D=X:=⟨_,rfl⟩
  have hQ2:((visitsM G true kids 2 1 ([] :: X.2) X.1).1,s)=Q:=by
   rw[← HQ.out,← hX,← hDD,bne_dec1,← HGI.out,HNX.out]
  have hsl:Slow r D:=by
   have:=slow_steps.trans (slow_steps.declare r i (sortI (allS s)) 2 (Tree.node 5 x a e kids) (gi !=(nx:Int))) (slow_steps.owner _ (nx:Int));rw[HNX.out]at this;rw[← hDD];exact this
  have hne:D.next=r.next+1:=by
   rw[← hDD];have:=head_next r i (sortI (allS s)) 2 (Tree.node 5 x a e kids) (gi !=(nx:Int));rw[HNX.out]at this ⊢;exact this
  have hal:(allS ([[]]:Scope)).length=0:=rfl;have hsx:Slow r X.1:=slow_steps.trans hsl (by rw[← hX];exact visits_slow G kids false 0 2 _ D)
  have hax:(allS ([] :: X.2)).length+r.next≤(allS s).length+X.1.next:=by
   have h1:=alls_visits G kids false 0 2 [[]] D;rw[hX,hal,hne]at h1;rw[alls_cons];show 0+_+_≤_;omega
  have hnx2:X.1.next≤r.next+1+countsM ((Tree.node 5 x a e kids).kids.take 2):=by
   have h1:=nexts_le G kids false 0 2 [[]] D;rw[hX,hne]at h1;exact h1
  have HSL:=kH hsl;have HNE:=kH hne;have HDD:=kH hDD;have HX:=kH hX;have HQ2:=kH hQ2;have HSX:=kH hsx;have HAX:=kH hax;have HNX2:=kH hnx2
  have hdec:=fun q=>(HV.out.drewN q).declare_ (Tree.node 5 x a e kids) ⟨rfl,rfl,rfl,rfl,rfl⟩ HNK.out HD.out HPR.out 2 nx HU.out (gi !=(nx:Int))
  have HDEC:=kH hdec;clear hdec hQ2 hsl hne hX hDD hsx hax hnx2 hal
  go_wp2_with fail
  go_quiet (fail)
  go_wp2_with fail
  refine(HDEC.out _).mono ?_;rintro e8 w8 ⟨rfl,V8,h8⟩;obtain⟨⟨y8,ly8⟩,⟨-,-,-,-,z8,lz8⟩,⟨-,-,-,d8,ld8⟩⟩:=h8.cells;have fo8:=h8.R.blk.frozen 8;obtain⟨hr9,hk9⟩:=h8.R.setOwner (nx:Int) (fun _=>False)
  obtain⟨W9,hW9⟩:∃ W9,w8.setCell ⟨E.rp,8,none⟩ (.int .i64 (nx:Int))=W9:=⟨_,rfl⟩
  rw[hW9]at hr9 hk9
  have hr9':RSAt E G D V8 W9:=by rw[← HDD.out];exact hr9
  have h9:=h8.stepS hk9 hr9' (fun _ _ hf=>hf) (fun _ hf=>hf.elim)
  obtain⟨ow,how⟩:∃ q,(declareM (entM r i (sortI (allS s))) 2 nx (Tree.node 5 x a e kids) (gi !=(nx:Int))).owner=q:=⟨_,rfl⟩
  rw[how]at d8;have hin9:=h9.inner_ (p1:=none) (s1:=[]) (ms1:=[]) ⟨rfl,rfl⟩ ⟨List.nodup_nil,fun m hm=>by cases hm⟩;have HIN9:=kH hin9;have H9:=kH h9;clear how h8 hr9 hr9' hk9 h9 hin9
  go_wp2_with (rw[hW9])
  refine HIN9.out.mono ?_;rintro e10 w10 ⟨b,m,rfl,hm,hb,ham,hs10,hsep10,hbel,h10⟩;have hm1:w.heap.size≤m:=Nat.le_trans H9.out.K.size hm;have h11:=h10.other hs10;obtain⟨⟨q11,lq11⟩,⟨-,-,-,-,n11,ln11⟩,-⟩:=h11.cells
  have hcall:=h11.kids HIH.out false 0 2 2 rfl HNK.out (by show 0+2≤nk;have:=HVK.out.1;have:=HNK.out;omega) HCAP.out HVK.out.2 (HRB.out.kids (t:=(Tree.node 5 x a e kids)) HSL.out (by have:=HNE.out;show 0+r.next≤_;omega) (by rw[HNE.out];exact Nat.le_add_right _ _)) hsep10 (fun g hg=>by
   rcases hg with hg | hg
   ·exact .inl (.inl hg)
   ·exact .inr (by simp at hg;omega))
  rw[HX.out]at hcall;have HC:=kH hcall;have HBEL:=kH hbel;have HM:Hid (W9.heap.size≤m∧w.heap.size≤m):=kH ⟨hm,hm1⟩;clear hcall h10 h11 hb hs10 hbel ham hm hm1 hW9 fo8 d8 y8 z8 ly8 lz8 ld8
  go_wp2_with fail
  refine HC.out.mono ?_;rintro e12 w12 ⟨rfl,k12,V12,h12⟩
  have HO12:=kH (H9.out.outer hsep HBEL.out k12 h12.R (fun g hg=>by
   rcases hg with hg | hg
   ·exact .inl hg
   ·exact .inr (by have:=HM.out.1;simp at hg;omega)) (.inl rfl))
  have hin12:=h12.inner_ h12.S hsep10;have HIN12:=kH hin12;have HM12:Hid (w.heap.size≤w12.heap.size):=kH h12.K.size;clear k12 h12 hin12 q11 lq11 n11 ln11 HC
  go_wp2_with fail
  refine HIN12.out.mono ?_;rintro e13 w13 ⟨b2,m2,rfl,hm2,hb2,ham2,hs13,hsep13,hbel13,h13⟩;have hm3:w.heap.size≤m2:=Nat.le_trans HM12.out hm2;have h14:=h13.other hs13;obtain⟨⟨q14,lq14⟩,⟨-,-,-,-,n14,ln14⟩,-⟩:=h14.cells
  have hcall:=h14.kids HIH.out true 2 1 3 rfl HNK.out (by show 2+1≤nk;have:=HVK.out.1;have:=HNK.out;omega) HCAP.out HVK.out.2 (HRB.out.kids (t:=(Tree.node 5 x a e kids)) HSX.out HAX.out HNX2.out) hsep13 (fun g hg=>by
   rcases hg with hg | hg
   ·exact .inl (.inl hg)
   ·exact .inr (by simp at hg;omega))
  have HC:=kH hcall;have HBEL13:=kH hbel13;have HM13:Hid (w12.heap.size≤m2):=kH hm2;clear hcall h13 h14 hb2 hs13 hbel13 ham2 hm2 hm3
  go_wp2_with fail
  refine HC.out.mono ?_;rintro e15 w15 ⟨rfl,k15,V15,h15⟩
  have HE:Hid (∃ V',RSAt E G Q.1 V' w15∧ScAt w15 E.base p Q.2 ms∧KX E (fun g=>g=E.vi∨ms.head? = some g) w w15):=kH (by
   rw[← HQ2.out]
   exact(HO12.out.outer hsep HBEL13.out k15 h15.R (fun g hg=>by
    rcases hg with hg | hg
    ·exact .inl hg
    ·exact .inr (by have:=HM13.out;simp at hg;omega)) (.inl rfl)).end_)
  clear k15 h15 HC q14 n14
  go_wp2_with fail
  try simp only[Exit.inBlock,Exit.then]
  refine bodyPost_ret (results_none rfl _ _ _) rfl ?_;exact⟨rfl,HE.out⟩
end Go.Proofs.YtoepemlnlpamlaaGreat
namespace Go.Proofs.YtoepemlnlpamlaaGreat
set_option maxRecDepth 100000
set_option maxHeartbeats 4000000
open Go.RowKit
theorem visit_for (E:RC) (G:Glob) (B:Nat) (hB:B≤E.base) (x:ByteArray) (a e:Int) (kids:List Tree) (hih:∀ k ∈ kids,VisitC E G B k):VisitC E G B (.node 16 x a e kids):=by
 intro i s p ms r V w A c h hs hsep hk hcap hbase hv hrb
 obtain⟨nk,hnk⟩:∃ q,kids.length=q:=⟨_,rfl⟩
 have hvk:s.isEmpty=false∧kids.length=3∧VOks s.isEmpty kids=true:=by
  rw[VOk,if_neg (by decide),if_neg (by decide),if_pos (by decide)]at hv;simp only[Bool.and_eq_true,Bool.not_eq_true',Bool.or_eq_true,decide_eq_true_eq]at hv;exact⟨hv.1.1.1,hv.1.2.resolve_left (by decide),hv.2⟩
 have hq:visitM G i (Tree.node 16 x a e kids) s r=((visitsM G i kids 2 1 ((variableM G (entM r i (sortI (allS s))) 5 r.next (Tree.node 16 x a e kids) ([] :: s)).2.headD [] ::(visitsM G i kids 0 2 s (variableM G (entM r i (sortI (allS s))) 5 r.next (Tree.node 16 x a e kids) ([] :: s)).1).2) (visitsM G i kids 0 2 s (variableM G (entM r i (sortI (allS s))) 5 r.next (Tree.node 16 x a e kids) ([] :: s)).1).1).1,(visitsM G i kids 2 1 ((variableM G (entM r i (sortI (allS s))) 5 r.next (Tree.node 16 x a e kids) ([] :: s)).2.headD [] ::(visitsM G i kids 0 2 s (variableM G (entM r i (sortI (allS s))) 5 r.next (Tree.node 16 x a e kids) ([] :: s)).1).2) (visitsM G i kids 0 2 s (variableM G (entM r i (sortI (allS s))) 5 r.next (Tree.node 16 x a e kids) ([] :: s)).1).1).2.tail):=by
  rw[visitM_eq,if_neg (by decide),if_neg (by decide),if_neg (by decide),if_neg (by decide),if_neg (by decide),if_neg (by decide),if_pos rfl]
 rw[hq]
 obtain⟨Q,hQ⟩:∃ Q,((visitsM G i kids 2 1 ((variableM G (entM r i (sortI (allS s))) 5 r.next (Tree.node 16 x a e kids) ([] :: s)).2.headD [] ::(visitsM G i kids 0 2 s (variableM G (entM r i (sortI (allS s))) 5 r.next (Tree.node 16 x a e kids) ([] :: s)).1).2) (visitsM G i kids 0 2 s (variableM G (entM r i (sortI (allS s))) 5 r.next (Tree.node 16 x a e kids) ([] :: s)).1).1).1,(visitsM G i kids 2 1 ((variableM G (entM r i (sortI (allS s))) 5 r.next (Tree.node 16 x a e kids) ([] :: s)).2.headD [] ::(visitsM G i kids 0 2 s (variableM G (entM r i (sortI (allS s))) 5 r.next (Tree.node 16 x a e kids) ([] :: s)).1).2) (visitsM G i kids 0 2 s (variableM G (entM r i (sortI (allS s))) 5 r.next (Tree.node 16 x a e kids) ([] :: s)).1).1).2.tail)=Q:=⟨_,rfl⟩
 rw[hQ];have HQ:=kH hQ;clear hq hQ;unfold nodeV
 have hfive:(Tree.node 16 x a e kids).kind=16∧(Tree.node 16 x a e kids).text=x∧(Tree.node 16 x a e kids).at_=a∧(Tree.node 16 x a e kids).end_=e∧(Tree.node 16 x a e kids).kids=kids:=⟨rfl,rfl,rfl,rfl,rfl⟩
 rw[hfive.1,hfive.2.1,hfive.2.2.1,hfive.2.2.2.1,hfive.2.2.2.2,hnk];rw[hfive.2.2.2.2]at hk hcap;rw[hnk]at hcap
 obtain⟨nx,hnx⟩:∃ q,r.next=q:=⟨_,rfl⟩
 have hnb:nx≤1000000:=by have:=hrb.room;have:=hrb.most;omega
 have hnkb:nk≤1000000:=by have h1:=hrb.room;have h2:=hrb.most;have h3:=counts_len kids;rw[countM]at h1;omega
 have c7w:w.cell? ⟨E.rp,7,none⟩=some (.int .i64 (nx:Int)):=by rw[← hnx];exact h.blk.cell 7
 have hrw:=h.blk.lt;have hwn:IntKind.i64.wrap ((nx:Int)+1)=(nx:Int)+1:=IntWalk.i64_in _ (by omega);have hfx:=h.blk.frozen 7;have H:=kH h;have HS:=kH hs;have HK:=kH hk;have HRB:=kH hrb;have HNX:=kH hnx;have HNK:=kH hnk;have HVK:=kH hvk;have HIH:=kH hih;have HCAP:=kH hcap;have HBASE:=kH hbase;clear h hs hk hrb hnx hnk hvk hih hv hfive hcap hbase
 go_enter Tryz.func79,Tryz.ntmps79
 go_upto_if 32 with fail
 generalize hW3:(((w.setCell ⟨E.rp,7,none⟩ (.int .i64 ((nx:Int)+1))).alloc (.cells #[.pointer (some ⟨E.rp,0,none⟩)] 68)).alloc (.cells #[.int .i64 16,.string x,.int .i64 a,.int .i64 e,.slice A nk c] 24))=W3
 obtain⟨hr3,hk3⟩:=H.out.setNext (nx+1) (fun _=>False)
 have hbW:Below w.heap.size (w.setCell ⟨E.rp,7,none⟩ (.int .i64 ((nx:Int)+1))) W3:=by
  rw[← hW3];have h1:=below_alloc (w.setCell ⟨E.rp,7,none⟩ (.int .i64 ((nx:Int)+1))) (.cells #[.pointer (some ⟨E.rp,0,none⟩)] 68);have h2:=below_alloc ((w.setCell ⟨E.rp,7,none⟩ (.int .i64 ((nx:Int)+1))).alloc (.cells #[.pointer (some ⟨E.rp,0,none⟩)] 68)) (.cells #[.int .i64 16,.string x,.int .i64 a,.int .i64 e,.slice A nk c] 24);have h3:=h1.trans (h2.mono (by simp))
  simpa using h3
 have hsz3:W3.heap.size=w.heap.size+2:=by rw[← hW3];simp
 have hn3:Blk W3 (w.heap.size+1) 24 #[.int .i64 16,.string x,.int .i64 a,.int .i64 e,.slice A nk c]:=by
  have:=Blk.new ((w.setCell ⟨E.rp,7,none⟩ (.int .i64 ((nx:Int)+1))).alloc (.cells #[.pointer (some ⟨E.rp,0,none⟩)] 68)) 24 #[.int .i64 16,.string x,.int .i64 a,.int .i64 e,.slice A nk c];rw[hW3]at this
  simpa using this
 have hp3:Blk W3 w.heap.size 68 #[.pointer (some ⟨E.rp,0,none⟩)]:=by
  have:=(Blk.new (w.setCell ⟨E.rp,7,none⟩ (.int .i64 ((nx:Int)+1))) 68 #[.pointer (some ⟨E.rp,0,none⟩)]).alloc (.cells #[.int .i64 16,.string x,.int .i64 a,.int .i64 e,.slice A nk c] 24);rw[hW3]at this
  simpa using this
 have HR3:Hid (RSAt E G { r with next:=nx+1 } V W3):=kH (hr3.below (by simpa using hbW));have HK3:Hid (KX E (fun _=>False) w W3):=kH (hk3.trans (KX.of_below (M:=fun _=>False) (by simpa using hbW)) (fun g hg=>.inl hg));have HS3:Hid (ScAt W3 E.base p s ms):=kH (ScAt.kx HK3.out H.out.notScope HS.out (fun _ _ h=>h));have HN3:=kH hn3;have HP3:=kH hp3;have HSZ3:=kH hsz3;have c5:W3.cell? ⟨E.rp,5,none⟩=some (.map (some E.vi)):=HR3.out.blk.cell 5;have p0:=hp3.cell 0;have lr3:=HR3.out.blk.lt;have lp3:=hp3.lt;clear hW3 hr3 hk3 hbW hn3 hp3 hsz3 c7w hfx
 go_cut [] (fun wx => ∃ Vx,Hid (RSAt E G (entM r i (sortI (allS s))) Vx wx)∧Hid (KX E (fun g=>g=E.vi) W3 wx))
 case first =>
  cases i with
  | false =>
   go_wp2_with fail
   go_meet
   exact⟨V,by have:=HR3.out;rw[← HNX.out]at this;exact kH this,kH (KX.refl _ _ _)⟩
  | true =>
   have hbz:E.base≤W3.heap.size:=Nat.le_trans HBASE.out HK3.out.size;have hall:=all_any E.base s p ms W3.drew (ScAt.below ((Below.refl _ W3).drew) HS3.out) (by have:=HRB.out.all_;have:=HNX.out;omega);have HALL:=kH hall
   have hKS:∀ w':World,Since (fun g=>g=E.vi) W3 w'→w'.cell? ⟨E.rp,5,none⟩=some (.map (some E.vi))∧w'.cell? ⟨w.heap.size,0,none⟩=some (.pointer (some ⟨E.rp,0,none⟩)):=fun w' hw=>by
    have nm:∀ {g:Nat} {t:TypeId} {cs:Array Value},Blk W3 g t cs→g≠E.vi:=fun hb e=>by
     obtain⟨es,ck,ho⟩:=HR3.out.vi.isMap;subst e;have:W3.heap[_]? = some (Obj.cells _ _ (0,0)):=hb;rw[ho]at this
     cases this
    exact⟨(HR3.out.blk.since hw (nm HR3.out.blk)).cell 5,(HP3.out.since hw (nm HP3.out)).cell 0⟩
   have HKS:=kH hKS;have hs0:Since (fun g=>g=E.vi) W3 W3.drew:=(Since.refl _ W3).drew
   have hvn:(nx:Int) ∉ r.vis.map (·.1):=fun hm=>by
    obtain⟨y,hy,he⟩:=List.mem_map.1 hm;have:=HRB.out.vis y hy;have:=HNX.out;omega
   have HVN:=kH hvn;clear hall hKS hvn
   go_wp2_with fail
   go_region_held3 (fun w'=>w'.cell? ⟨E.rp,5,none⟩=some (.map (some E.vi))∧w'.cell? ⟨w.heap.size,0,none⟩=some (.pointer (some ⟨E.rp,0,none⟩))) (exact HKS.out _ (by assumption)) ((go_at_call 145;refine HALL.out.mono ?_;rintro e5 w5 ⟨v5,rfl,ho5,hb5⟩;have hs5:=hs0.below hb5;obtain⟨w6,hrun,hm6,hg6,hz6⟩:=run_mapUpdate_am (P:=Tryz.prog) (KK:=intK) (t:=72) (kt:=3) (et:=28) Tryz.underlying72 Tryz.underlying3 ((AMap.drew HR3.out.vi).beh hb5) (nx:Int) v5;change (Instr.mapUpdate 72 (.map (some E.vi)) (Value.int .i64 (nx:Int)) v5).run Tryz.prog w5=_ at hrun;have hs6:Since (fun g=>g=E.vi) w5 w6:=(Since.refl (fun g=>g=E.vi) w5).grown hg6 (fun k hk=>by cases hk;exact .inl rfl);have hs7:=hs5.trans hs6))
   have hlen:(sortI (allS s)).length=(allS s).length:=List.length_mergeSort _;have hb35:Below W3.heap.size W3 w5:=((Below.refl _ W3).drew).trans hb5;have hnote:=HR3.out.noteVis hbz hb35 (nx:Int) (sortI (allS s)) v5 (by rw[hlen];exact ho5) HVN.out (fun g=>g=E.vi) rfl hm6 hs6;have HNOTE:=kH hnote;clear hnote hs5 hs6 hs7 hz6 hm6 hb35 hb5 ho5 hs0 hrun hg6
   go_wp2_with fail
   go_meet
   exact⟨_,by have:=HNOTE.out.1;rw[← HNX.out]at this;exact kH this,kH HNOTE.out.2⟩
 case rest =>
  obtain⟨Vx,HRX,HKX⟩:=hcut;have HKW:Hid (KX E (fun g=>g=E.vi) w wc):=kH ((HK3.out.mono (fun _ hf=>hf.elim)).trans HKX.out (fun g hg=>.inl hg));have HV:Hid (VW E G B ⟨kids,16,x,a,e,A,nk,c,w.heap.size+1,w.heap.size⟩ w (fun g=>g=E.vi∨ms.head? = some g) (entM r i (sortI (allS s))) Vx s p ms wc):=kH ⟨HRX.out,ScAt.kx HKX.out HR3.out.notScope HS3.out (fun m hm e=>(hsep.apart m hm).2.2.2 e),HR3.out.node_at HKX.out HN3.out,HR3.out.ptr_at HKX.out HP3.out,HKW.out.mono (fun _ h=>.inl h),KidsAt.below ((KX.low HKW.out HBASE.out).mono hB) (Nat.le_refl _) _ _ _ HK.out,Nat.le_trans HBASE.out (KX.low HKW.out HBASE.out).size,hB⟩
  have hlk:=fun q=>lookupOk_lay (wc.drewN q) E.g G.globals (AMap.drewN HRX.out.gl q) x
  obtain⟨gi,hgi⟩:∃ q,(lookL G.globals x).getD 0=q:=⟨_,rfl⟩
  obtain⟨gb,hgb⟩:∃ q,(lookL G.globals x).isSome=q:=⟨_,rfl⟩
  rw[hgi,hgb]at hlk;obtain⟨⟨q0,lp⟩,⟨n0,n1,n2,n3,n4,ln⟩,⟨c0,c1,c2,c8,lr⟩⟩:=HV.out.cells;have HGI:=kH hgi;have HGB:=kH hgb
  have hD:(entM r i (sortI (allS s))).ds.length≤1000000:=by show r.ds.length≤_;have:=HRB.out.ds;have:=HNX.out;omega
  have hP:(entM r i (sortI (allS s))).probs.length≤1000000:=by show r.probs.length≤_;have:=HRB.out.probs;have:=HNX.out;omega
  have hU:nx < (entM r i (sortI (allS s))).uses.length:=by show nx < r.uses.length;have h1:=HRB.out.room;have h2:=HNX.out;rw[countM]at h1;omega
  have HD:=kH hD;have HPR:=kH hP;have HU:=kH hU
  have hqn:∀ u:RS,u.next=r.next+1→u.next≤r.next+1+countsM ((Tree.node 16 x a e kids).kids.take 0):=fun u hu=>by rw[hu];exact Nat.le_add_right _ _
  have HQN:=kH hqn;clear hgi hgb c5 p0 lr3 lp3 hqn hD hP hU c8
  obtain⟨L,hL⟩:∃ L,variableM G (entM r i (sortI (allS s))) 5 nx (Tree.node 16 x a e kids) ([] :: s)=L:=⟨_,rfl⟩
  obtain⟨l,hl,hl1⟩:=var_two G (entM r i (sortI (allS s))) 5 nx (Tree.node 16 x a e kids) s;rw[hL]at hl
  obtain⟨X,hX⟩:∃ X,visitsM G i kids 0 2 s L.1=X:=⟨_,rfl⟩
  have hsl:Slow r L.1:=by
   have:=slow_steps.variable_ G r i (sortI (allS s)) 5 (Tree.node 16 x a e kids) ([] :: s);rw[HNX.out,hL]at this;exact this
  have hne:L.1.next=r.next+1:=by
   have:=varM_next G r i (sortI (allS s)) 5 (Tree.node 16 x a e kids) ([] :: s);rw[HNX.out,hL]at this;rw[this,HNX.out]
  have hsx:Slow r X.1:=slow_steps.trans hsl (by rw[← hX];exact visits_slow G kids i 0 2 _ L.1)
  have hax:(allS (l :: X.2)).length+r.next≤(allS s).length+X.1.next:=by
   have h1:=alls_visits G kids i 0 2 s L.1;rw[hX,hne]at h1;rw[alls_cons];omega
  have hnx2:X.1.next≤r.next+1+countsM ((Tree.node 16 x a e kids).kids.take 2):=by
   have h1:=nexts_le G kids i 0 2 s L.1;rw[hX,hne]at h1;exact h1
  have hxl:X.2.length=s.length:=by rw[← hX];exact visits_len G kids i 0 2 s L.1
  have HSL:=kH hsl;have HNE:=kH hne;have HL:=kH hL;have HLL:=kH hl;have HL1:=kH hl1;have HX:=kH hX;have HSX:=kH hsx;have HAX:=kH hax;have HNX2:=kH hnx2;have HXL:=kH hxl
  have hin:=fun q=>(HV.out.drewN q).inner_ (HV.out.drewN q).S hsep
  have HIN:=kH hin;clear hin hsl hne hX hsx hax hnx2 hl hl1 hL hxl
  go_wp2_with fail
  go_quiet (fail)
  go_wp2_with fail
  refine(HIN.out _).mono ?_;rintro e8 w8 ⟨b,m,rfl,hm,hb,ham,hs8,hsep8,hbel,h8⟩;have hm1:w.heap.size≤m:=Nat.le_trans HKW.out.size hm;have hvar:=h8.variable_ (Tree.node 16 x a e kids) ⟨rfl,rfl,rfl,rfl,rfl⟩ HNK.out HD.out HPR.out 5 nx HU.out [] s m ms hs8 hsep8 (.inr hm1);rw[HL.out]at hvar;have HVAR:=kH hvar;have HOU:Hid (∀ {M2:Nat→Prop} {w':World} {r':RS} {V':RV},KX E M2 w8 w'→RSAt E G r' V' w'→(∀ g,M2 g→g=E.vi∨g=m)→VW E G B ⟨kids,16,x,a,e,A,nk,c,w.heap.size+1,w.heap.size⟩ w (fun g=>g=E.vi∨ms.head? = some g) r' V' s p ms w'):=kH (fun hk hr hM2=>(HV.out.drewN _).outer hsep hbel hk hr (fun g hg=>by rcases hM2 g hg with e | e;exact .inl e;exact .inr (by rw[e];exact hm)) (.inl rfl));have HB8:=kH hb;have H8:=kH h8;have HM:Hid (w.heap.size≤m):=kH hm1;obtain⟨⟨q8,lq8⟩,⟨u0,u1,u2,u3,u4,lu⟩,⟨-,-,-,-,lr8⟩⟩:=h8.cells;have b0:=hb.cell 0;have b1:=hb.cell 1;have lb8:=hb.lt;clear hvar hm hb ham hs8 hbel h8 hm1
  go_wp2_with fail
  refine HVAR.out.mono ?_;rintro e9 w9 ⟨rfl,k9,V9,h9⟩;rw[HLL.out]at h9;have hb9:=H8.out.scope_at k9 HB8.out;have hhd:=h9.S.head;obtain⟨ham9,hbb,hbm,-⟩:=hhd;have ho9:=HOU.out k9 h9.R (fun g hg=>.inr hg);obtain⟨⟨q9,lq9⟩,⟨-,-,-,-,n9,ln9⟩,-⟩:=ho9.cells;have hcall:=ho9.kids HIH.out i 0 2 2 rfl HNK.out (by show 0+2≤nk;have:=HVK.out.2.1;have:=HNK.out;omega) HCAP.out HVK.out.2.2 (HRB.out.kids (t:=(Tree.node 16 x a e kids)) HSL.out (by have:=HNE.out;omega) (by rw[HNE.out];exact Nat.le_add_right _ _)) hsep (fun g hg=>.inl hg);rw[HX.out]at hcall;have HC:=kH hcall;have HO9:=kH ho9;have HB9:=kH hb9;have HAM9:=kH ham9;have HBB:Hid (E.base≤b∧E.base≤m):=kH ⟨hbb,hbm⟩;clear hcall h9 hb9 ham9 hbb hbm ho9 k9 q8 lq8 u0 u1 u2 u3 u4 lu lr8 b0 b1 lb8
  go_wp2_with fail
  refine HC.out.mono ?_;rintro e10 w10 ⟨rfl,k10,V10,h10⟩;have hb10:=HO9.out.scope_at k10 HB9.out
  have hmn:¬ (m=E.vi∨ms.head? = some m):=fun h=>by
   rcases h with h | h
   ·exact(hsep8.apart m (by simp)).2.2.2 h
   ·refine(List.nodup_cons.1 hsep8.nodup).1 ?_
    cases ms with
    | nil=>cases h
    | cons a t=>simp at h;rw[h];simp
  have ham10:=k10.amap HAM9.out hmn
  obtain⟨Y,hY⟩:∃ Y,visitsM G i kids 2 1 (l :: X.2) X.1=Y:=⟨_,rfl⟩
  have hQ2:(Y.1,Y.2.tail)=Q:=by
   rw[← HQ.out,HNX.out,HL.out,HX.out,HLL.out,← hY];rfl
  have hs10:ScAt w10 E.base (some ⟨b,0,none⟩) (l :: X.2) (m :: ms):=⟨b,m,p,ms,rfl,rfl,HBB.out.1,HBB.out.2,hb10,ham10,h10.S⟩
  have h11:=h10.other hs10;obtain⟨⟨q11,lq11⟩,⟨-,-,-,-,n11,ln11⟩,-⟩:=h11.cells
  have hcall:=h11.kids HIH.out i 2 1 3 rfl HNK.out (by show 2+1≤nk;have:=HVK.out.2.1;have:=HNK.out;omega) HCAP.out (by have:=HVK.out.2.2;rw[HVK.out.1]at this;exact this) (HRB.out.kids (t:=(Tree.node 16 x a e kids)) HSX.out HAX.out HNX2.out) hsep8 (fun g hg=>by
   rcases hg with hg | hg
   ·exact .inl (.inl hg)
   ·exact .inr (by have:=HM.out;simp at hg;omega))
  rw[hY]at hcall;have HC2:=kH hcall;have HB10:=kH hb10;have H11:=kH h11;have HQ2:=kH hQ2;clear hcall h10 h11 hb10 ham10 hs10 k10 hmn hY hQ2 q9 lq9 n9 ln9 HC
  go_wp2_with fail
  refine HC2.out.mono ?_;rintro e12 w12 ⟨rfl,k12,V12,h12⟩
  have HE:Hid (∃ V',RSAt E G Q.1 V' w12∧ScAt w12 E.base p Q.2 ms∧KX E (fun g=>g=E.vi∨ms.head? = some g) w w12):=kH (by
   rw[← HQ2.out]
   exact(h12.other (ScAt.tail h12.S (H11.out.scope_at k12 HB10.out))).end_)
  clear k12 h12 HC2 q11 n11
  go_wp2_with fail
  try simp only[Exit.inBlock,Exit.then]
  refine bodyPost_ret (results_none rfl _ _ _) rfl ?_;exact⟨rfl,HE.out⟩
end Go.Proofs.YtoepemlnlpamlaaGreat
