/- The law NamesFreeAt holds: for every text and every number the law returns true, and its arguments read as before. No condition. Part 26: VisC2 VisD0. -/
import Derived.Test.YtoepemlnlpamlaaGreatFreeAt24
namespace Go.Proofs.YtoepemlnlpamlaaGreat
set_option maxRecDepth 100000
set_option maxHeartbeats 4000000
open Go.RowKit
theorem visit_var (E:RC) (G:Glob) (B:Nat) (hB:B≤E.base) (x:ByteArray) (a e:Int) (kids:List Tree) (hih:∀ k ∈ kids,VisitC E G B k):VisitC E G B (.node 12 x a e kids):=by
 intro i s p ms r V w A c h hs hsep hk hcap hbase hv hrb
 obtain⟨nk,hnk⟩:∃ q,kids.length=q:=⟨_,rfl⟩
 have hvk:s.isEmpty=false∧kids.length=2∧VOks s.isEmpty kids=true:=by
  rw[VOk,if_neg (by decide),if_neg (by decide),if_pos (by decide)]at hv;simp only[Bool.and_eq_true,Bool.not_eq_true',Bool.or_eq_true,decide_eq_true_eq]at hv;exact⟨hv.1.1.1,hv.1.1.2.resolve_left (by decide),hv.2⟩
 have hq:visitM G i (Tree.node 12 x a e kids) s r=((visitsM G i kids 0 2 s (variableM G (entM r i (sortI (allS s))) 4 r.next (Tree.node 12 x a e kids) ([] :: s)).1).1,addTop (visitsM G i kids 0 2 s (variableM G (entM r i (sortI (allS s))) 4 r.next (Tree.node 12 x a e kids) ([] :: s)).1).2 ((variableM G (entM r i (sortI (allS s))) 4 r.next (Tree.node 12 x a e kids) ([] :: s)).2.headD [])):=by
  rw[visitM_eq,if_neg (by decide),if_neg (by decide),if_neg (by decide),if_neg (by decide),if_neg (by decide),if_pos rfl]
 rw[hq]
 obtain⟨Q,hQ⟩:∃ Q,((visitsM G i kids 0 2 s (variableM G (entM r i (sortI (allS s))) 4 r.next (Tree.node 12 x a e kids) ([] :: s)).1).1,addTop (visitsM G i kids 0 2 s (variableM G (entM r i (sortI (allS s))) 4 r.next (Tree.node 12 x a e kids) ([] :: s)).1).2 ((variableM G (entM r i (sortI (allS s))) 4 r.next (Tree.node 12 x a e kids) ([] :: s)).2.headD []))=Q:=⟨_,rfl⟩
 rw[hQ];have HQ:=kH hQ;clear hq hQ;unfold nodeV
 have hfive:(Tree.node 12 x a e kids).kind=12∧(Tree.node 12 x a e kids).text=x∧(Tree.node 12 x a e kids).at_=a∧(Tree.node 12 x a e kids).end_=e∧(Tree.node 12 x a e kids).kids=kids:=⟨rfl,rfl,rfl,rfl,rfl⟩
 rw[hfive.1,hfive.2.1,hfive.2.2.1,hfive.2.2.2.1,hfive.2.2.2.2,hnk];rw[hfive.2.2.2.2]at hk hcap;rw[hnk]at hcap
 obtain⟨nx,hnx⟩:∃ q,r.next=q:=⟨_,rfl⟩
 have hnb:nx≤1000000:=by have:=hrb.room;have:=hrb.most;omega
 have hnkb:nk≤1000000:=by have h1:=hrb.room;have h2:=hrb.most;have h3:=counts_len kids;rw[countM]at h1;omega
 have c7w:w.cell? ⟨E.rp,7,none⟩=some (.int .i64 (nx:Int)):=by rw[← hnx];exact h.blk.cell 7
 have hrw:=h.blk.lt;have hwn:IntKind.i64.wrap ((nx:Int)+1)=(nx:Int)+1:=IntWalk.i64_in _ (by omega);have hfx:=h.blk.frozen 7;have H:=kH h;have HS:=kH hs;have HK:=kH hk;have HRB:=kH hrb;have HNX:=kH hnx;have HNK:=kH hnk;have HVK:=kH hvk;have HIH:=kH hih;have HCAP:=kH hcap;have HBASE:=kH hbase;clear h hs hk hrb hnx hnk hvk hih hv hfive hcap hbase
 go_enter Tryz.func79,Tryz.ntmps79
 go_upto_if 32 with fail
 generalize hW3:(((w.setCell ⟨E.rp,7,none⟩ (.int .i64 ((nx:Int)+1))).alloc (.cells #[.pointer (some ⟨E.rp,0,none⟩)] 68)).alloc (.cells #[.int .i64 12,.string x,.int .i64 a,.int .i64 e,.slice A nk c] 24))=W3
 obtain⟨hr3,hk3⟩:=H.out.setNext (nx+1) (fun _=>False)
 have hbW:Below w.heap.size (w.setCell ⟨E.rp,7,none⟩ (.int .i64 ((nx:Int)+1))) W3:=by
  rw[← hW3];have h1:=below_alloc (w.setCell ⟨E.rp,7,none⟩ (.int .i64 ((nx:Int)+1))) (.cells #[.pointer (some ⟨E.rp,0,none⟩)] 68);have h2:=below_alloc ((w.setCell ⟨E.rp,7,none⟩ (.int .i64 ((nx:Int)+1))).alloc (.cells #[.pointer (some ⟨E.rp,0,none⟩)] 68)) (.cells #[.int .i64 12,.string x,.int .i64 a,.int .i64 e,.slice A nk c] 24);have h3:=h1.trans (h2.mono (by simp))
  simpa using h3
 have hsz3:W3.heap.size=w.heap.size+2:=by rw[← hW3];simp
 have hn3:Blk W3 (w.heap.size+1) 24 #[.int .i64 12,.string x,.int .i64 a,.int .i64 e,.slice A nk c]:=by
  have:=Blk.new ((w.setCell ⟨E.rp,7,none⟩ (.int .i64 ((nx:Int)+1))).alloc (.cells #[.pointer (some ⟨E.rp,0,none⟩)] 68)) 24 #[.int .i64 12,.string x,.int .i64 a,.int .i64 e,.slice A nk c];rw[hW3]at this
  simpa using this
 have hp3:Blk W3 w.heap.size 68 #[.pointer (some ⟨E.rp,0,none⟩)]:=by
  have:=(Blk.new (w.setCell ⟨E.rp,7,none⟩ (.int .i64 ((nx:Int)+1))) 68 #[.pointer (some ⟨E.rp,0,none⟩)]).alloc (.cells #[.int .i64 12,.string x,.int .i64 a,.int .i64 e,.slice A nk c] 24);rw[hW3]at this
  simpa using this
 have HR3:Hid (RSAt E G { r with next:=nx+1 } V W3):=kH (hr3.below (by simpa using hbW));have HK3:Hid (KX E (fun _=>False) w W3):=kH (hk3.trans (KX.of_below (M:=fun _=>False) (by simpa using hbW)) (fun g hg=>.inl hg));have HS3:Hid (ScAt W3 E.base p s ms):=kH (ScAt.kx HK3.out H.out.notScope HS.out (fun _ _ h=>h));have HN3:=kH hn3;have HP3:=kH hp3;have HSZ3:=kH hsz3;have c5:W3.cell? ⟨E.rp,5,none⟩=some (.map (some E.vi)):=HR3.out.blk.cell 5;have p0:=hp3.cell 0;have lr3:=HR3.out.blk.lt;have lp3:=hp3.lt;clear hW3 hr3 hk3 hbW hn3 hp3 hsz3 c7w hfx
 go_cut [] (fun wx => ∃ Vx,Hid (RSAt E G (entM r i (sortI (allS s))) Vx wx)∧Hid (KX E (fun g=>g=E.vi) W3 wx))
 case first =>
  cases i with
  | false =>
   go_wp2_with fail
   go_meet
   exact⟨V,by have:=HR3.out;rw[← HNX.out]at this;exact kH this,kH (KX.refl _ _ _)⟩
  | true =>
   have hbz:E.base≤W3.heap.size:=Nat.le_trans HBASE.out HK3.out.size;have hall:=all_any E.base s p ms W3.drew (ScAt.below ((Below.refl _ W3).drew) HS3.out) (by have:=HRB.out.all_;have:=HNX.out;omega);have HALL:=kH hall
   have hKS:∀ w':World,Since (fun g=>g=E.vi) W3 w'→w'.cell? ⟨E.rp,5,none⟩=some (.map (some E.vi))∧w'.cell? ⟨w.heap.size,0,none⟩=some (.pointer (some ⟨E.rp,0,none⟩)):=fun w' hw=>by
    have nm:∀ {g:Nat} {t:TypeId} {cs:Array Value},Blk W3 g t cs→g≠E.vi:=fun hb e=>by
     obtain⟨es,ck,ho⟩:=HR3.out.vi.isMap;subst e;have:W3.heap[_]? = some (Obj.cells _ _ (0,0)):=hb;rw[ho]at this
     cases this
    exact⟨(HR3.out.blk.since hw (nm HR3.out.blk)).cell 5,(HP3.out.since hw (nm HP3.out)).cell 0⟩
   have HKS:=kH hKS;have hs0:Since (fun g=>g=E.vi) W3 W3.drew:=(Since.refl _ W3).drew
   have hvn:(nx:Int) ∉ r.vis.map (·.1):=fun hm=>by
    obtain⟨y,hy,he⟩:=List.mem_map.1 hm;have:=HRB.out.vis y hy;have:=HNX.out;omega
   have HVN:=kH hvn;clear hall hKS hvn
   go_wp2_with fail
   go_region_held3 (fun w'=>w'.cell? ⟨E.rp,5,none⟩=some (.map (some E.vi))∧w'.cell? ⟨w.heap.size,0,none⟩=some (.pointer (some ⟨E.rp,0,none⟩))) (exact HKS.out _ (by assumption)) ((go_at_call 145;refine HALL.out.mono ?_;rintro e5 w5 ⟨v5,rfl,ho5,hb5⟩;have hs5:=hs0.below hb5;obtain⟨w6,hrun,hm6,hg6,hz6⟩:=run_mapUpdate_am (P:=Tryz.prog) (KK:=intK) (t:=72) (kt:=3) (et:=28) Tryz.underlying72 Tryz.underlying3 ((AMap.drew HR3.out.vi).beh hb5) (nx:Int) v5;change (Instr.mapUpdate 72 (.map (some E.vi)) (Value.int .i64 (nx:Int)) v5).run Tryz.prog w5=_ at hrun;have hs6:Since (fun g=>g=E.vi) w5 w6:=(Since.refl (fun g=>g=E.vi) w5).grown hg6 (fun k hk=>by cases hk;exact .inl rfl);have hs7:=hs5.trans hs6))
   have hlen:(sortI (allS s)).length=(allS s).length:=List.length_mergeSort _;have hb35:Below W3.heap.size W3 w5:=((Below.refl _ W3).drew).trans hb5;have hnote:=HR3.out.noteVis hbz hb35 (nx:Int) (sortI (allS s)) v5 (by rw[hlen];exact ho5) HVN.out (fun g=>g=E.vi) rfl hm6 hs6;have HNOTE:=kH hnote;clear hnote hs5 hs6 hs7 hz6 hm6 hb35 hb5 ho5 hs0 hrun hg6
   go_wp2_with fail
   go_meet
   exact⟨_,by have:=HNOTE.out.1;rw[← HNX.out]at this;exact kH this,kH HNOTE.out.2⟩
 case rest =>
  obtain⟨Vx,HRX,HKX⟩:=hcut;have HKW:Hid (KX E (fun g=>g=E.vi) w wc):=kH ((HK3.out.mono (fun _ hf=>hf.elim)).trans HKX.out (fun g hg=>.inl hg));have HV:Hid (VW E G B ⟨kids,12,x,a,e,A,nk,c,w.heap.size+1,w.heap.size⟩ w (fun g=>g=E.vi∨ms.head? = some g) (entM r i (sortI (allS s))) Vx s p ms wc):=kH ⟨HRX.out,ScAt.kx HKX.out HR3.out.notScope HS3.out (fun m hm e=>(hsep.apart m hm).2.2.2 e),HR3.out.node_at HKX.out HN3.out,HR3.out.ptr_at HKX.out HP3.out,HKW.out.mono (fun _ h=>.inl h),KidsAt.below ((KX.low HKW.out HBASE.out).mono hB) (Nat.le_refl _) _ _ _ HK.out,Nat.le_trans HBASE.out (KX.low HKW.out HBASE.out).size,hB⟩
  have hlk:=fun q=>lookupOk_lay (wc.drewN q) E.g G.globals (AMap.drewN HRX.out.gl q) x
  obtain⟨gi,hgi⟩:∃ q,(lookL G.globals x).getD 0=q:=⟨_,rfl⟩
  obtain⟨gb,hgb⟩:∃ q,(lookL G.globals x).isSome=q:=⟨_,rfl⟩
  rw[hgi,hgb]at hlk;obtain⟨⟨q0,lp⟩,⟨n0,n1,n2,n3,n4,ln⟩,⟨c0,c1,c2,c8,lr⟩⟩:=HV.out.cells;have HGI:=kH hgi;have HGB:=kH hgb
  have hD:(entM r i (sortI (allS s))).ds.length≤1000000:=by show r.ds.length≤_;have:=HRB.out.ds;have:=HNX.out;omega
  have hP:(entM r i (sortI (allS s))).probs.length≤1000000:=by show r.probs.length≤_;have:=HRB.out.probs;have:=HNX.out;omega
  have hU:nx < (entM r i (sortI (allS s))).uses.length:=by show nx < r.uses.length;have h1:=HRB.out.room;have h2:=HNX.out;rw[countM]at h1;omega
  have HD:=kH hD;have HPR:=kH hP;have HU:=kH hU
  have hqn:∀ u:RS,u.next=r.next+1→u.next≤r.next+1+countsM ((Tree.node 12 x a e kids).kids.take 0):=fun u hu=>by rw[hu];exact Nat.le_add_right _ _
  have HQN:=kH hqn;clear hgi hgb c5 p0 lr3 lp3 hqn hD hP hU c8
  obtain⟨L,hL⟩:∃ L,variableM G (entM r i (sortI (allS s))) 4 nx (Tree.node 12 x a e kids) ([] :: s)=L:=⟨_,rfl⟩
  obtain⟨l,hl,hl1⟩:=var_two G (entM r i (sortI (allS s))) 4 nx (Tree.node 12 x a e kids) s;rw[hL]at hl
  obtain⟨X,hX⟩:∃ X,visitsM G i kids 0 2 s L.1=X:=⟨_,rfl⟩
  have hsl:Slow r L.1:=by
   have:=slow_steps.variable_ G r i (sortI (allS s)) 4 (Tree.node 12 x a e kids) ([] :: s);rw[HNX.out,hL]at this;exact this
  have hne:L.1.next=r.next+1:=by
   have:=varM_next G r i (sortI (allS s)) 4 (Tree.node 12 x a e kids) ([] :: s);rw[HNX.out,hL]at this;rw[this,HNX.out]
  have hsx:Slow r X.1:=slow_steps.trans hsl (by rw[← hX];exact visits_slow G kids i 0 2 _ L.1)
  have hax:(allS (l :: X.2)).length+r.next≤(allS s).length+X.1.next:=by
   have h1:=alls_visits G kids i 0 2 s L.1;rw[hX,hne]at h1;rw[alls_cons];omega
  have hnx2:X.1.next≤r.next+1+countsM ((Tree.node 12 x a e kids).kids.take 2):=by
   have h1:=nexts_le G kids i 0 2 s L.1;rw[hX,hne]at h1;exact h1
  have hxl:X.2.length=s.length:=by rw[← hX];exact visits_len G kids i 0 2 s L.1
  have HSL:=kH hsl;have HNE:=kH hne;have HL:=kH hL;have HLL:=kH hl;have HL1:=kH hl1;have HX:=kH hX;have HSX:=kH hsx;have HAX:=kH hax;have HNX2:=kH hnx2;have HXL:=kH hxl
  have hin:=fun q=>(HV.out.drewN q).inner_ (HV.out.drewN q).S hsep
  have HIN:=kH hin;clear hin hsl hne hX hsx hax hnx2 hl hl1 hL hxl
  go_wp2_with fail
  go_quiet (fail)
  go_wp2_with fail
  refine(HIN.out _).mono ?_;rintro e8 w8 ⟨b,m,rfl,hm,hb,ham,hs8,hsep8,hbel,h8⟩;have hm1:w.heap.size≤m:=Nat.le_trans HKW.out.size hm;have hvar:=h8.variable_ (Tree.node 12 x a e kids) ⟨rfl,rfl,rfl,rfl,rfl⟩ HNK.out HD.out HPR.out 4 nx HU.out [] s m ms hs8 hsep8 (.inr hm1);rw[HL.out]at hvar;have HVAR:=kH hvar;have HOU:Hid (∀ {M2:Nat→Prop} {w':World} {r':RS} {V':RV},KX E M2 w8 w'→RSAt E G r' V' w'→(∀ g,M2 g→g=E.vi∨g=m)→VW E G B ⟨kids,12,x,a,e,A,nk,c,w.heap.size+1,w.heap.size⟩ w (fun g=>g=E.vi∨ms.head? = some g) r' V' s p ms w'):=kH (fun hk hr hM2=>(HV.out.drewN _).outer hsep hbel hk hr (fun g hg=>by rcases hM2 g hg with e | e;exact .inl e;exact .inr (by rw[e];exact hm)) (.inl rfl));have HB8:=kH hb;have H8:=kH h8;have HM:Hid (w.heap.size≤m):=kH hm1;obtain⟨⟨q8,lq8⟩,⟨u0,u1,u2,u3,u4,lu⟩,⟨-,-,-,-,lr8⟩⟩:=h8.cells;have b0:=hb.cell 0;have b1:=hb.cell 1;have lb8:=hb.lt;clear hvar hm hb ham hs8 hbel h8 hm1
  go_wp2_with fail
  refine HVAR.out.mono ?_;rintro e9 w9 ⟨rfl,k9,V9,h9⟩;rw[HLL.out]at h9;have hb9:=H8.out.scope_at k9 HB8.out;have hhd:=h9.S.head;obtain⟨ham9,hbb,hbm,-⟩:=hhd;have ho9:=HOU.out k9 h9.R (fun g hg=>.inr hg);obtain⟨⟨q9,lq9⟩,⟨-,-,-,-,n9,ln9⟩,-⟩:=ho9.cells;have hcall:=ho9.kids HIH.out i 0 2 2 rfl HNK.out (by show 0+2≤nk;have:=HVK.out.2.1;have:=HNK.out;omega) HCAP.out HVK.out.2.2 (HRB.out.kids (t:=(Tree.node 12 x a e kids)) HSL.out (by have:=HNE.out;omega) (by rw[HNE.out];exact Nat.le_add_right _ _)) hsep (fun g hg=>.inl hg);rw[HX.out]at hcall;have HC:=kH hcall;have HO9:=kH ho9;have HB9:=kH hb9;have HAM9:=kH ham9;have HBB:Hid (E.base≤b∧E.base≤m):=kH ⟨hbb,hbm⟩;clear hcall h9 hb9 ham9 hbb hbm ho9 k9 q8 lq8 u0 u1 u2 u3 u4 lu lr8 b0 b1 lb8
  go_wp2_with fail
  refine HC.out.mono ?_;rintro e10 w10 ⟨rfl,k10,V10,h10⟩;have hb10:=HO9.out.scope_at k10 HB9.out
  have hmn:¬ (m=E.vi∨ms.head? = some m):=fun h=>by
   rcases h with h | h
   ·exact(hsep8.apart m (by simp)).2.2.2 h
   ·refine(List.nodup_cons.1 hsep8.nodup).1 ?_
    cases ms with
    | nil=>cases h
    | cons a t=>simp at h;rw[h];simp
  have ham10:=k10.amap HAM9.out hmn
  obtain⟨l0,s0,hX2⟩:∃ l0 s0,X.2=l0 :: s0:=by
   have h1:=HXL.out;have h2:=HVK.out.1
   cases hx:X.2 with
   | nil =>
    rw[hx]at h1
    cases s with
    | nil=>cases h2
    | cons a t=>cases h1
   | cons a t=>exact⟨a,t,rfl⟩
  have hQ2:(X.1,(l.foldl (fun a y=>setL a y.1 y.2) l0) :: s0)=Q:=by
   rw[← HQ.out,HNX.out,HL.out,HX.out,HLL.out,hX2];rfl
  obtain⟨b0,m0,p0,ms0,hp0,hms0,hbb0,hbm0,hblk0,ham0,hst0⟩:∃ b' m' p' ms',p=some ⟨b',0,none⟩∧ms=m' :: ms'∧E.base≤b'∧E.base≤m'∧Blk w10 b' 95 #[.pointer p',.map (some m')]∧AMap strK w10 m' (layV l0)∧ScAt w10 E.base p' s0 ms':=by
   have:=h10.S;rw[hX2]at this;exact this
  subst hp0;subst hms0;rw[hX2]at h10;obtain⟨w11,hr11,hit,hb11,hsz11⟩:=run_range_am (P:=Tryz.prog) (t:=70) (kt:=9) (et:=3) Tryz.underlying70 ham10;have d1:=hb10.cell 1;have ld:=hb10.lt
  have hm0m:m0≠m:=fun e=>hmn (.inr (by rw[e];rfl))
  have hb0m:b0≠m0:=fun e=>ham0.not_blk hblk0 e.symm
  obtain⟨it,hite⟩:∃ it,w10.heap.size=it:=⟨_,rfl⟩
  have hmit:m < it:=by rw[← hite];exact ham10.lt
  have hm0it:m0 < it:=by rw[← hite];exact ham0.lt
  have hb0it:b0 < it:=by rw[← hite];exact hblk0.lt
  have hsA:Since (fun g=>g=m0∨it≤g) w10 w11:=(Since.refl _ w10).below hb11;have HM0:Hid (AMap strK w11 m0 (layV l0)):=kH (ham0.below hb11 ham0.lt);have HIT:=kH hit;have HSA:=kH hsA;have H10:=kH h10;have HB0:=kH hblk0;have HQ2:=kH hQ2;have HLT:Hid (m < it∧m0 < it∧b0 < it∧m0≠m∧b0≠m0∧w10.heap.size=it):=kH ⟨hmit,hm0it,hb0it,hm0m,hb0m,hite⟩;have HX2:=kH hX2;clear hit hsA h10 hblk0 ham0 hst0 hQ2 hb10 ham10 k10 hmn hmit hm0it hb0it hm0m hb0m hX2 q9 lq9 n9 ln9 HC hsz11 hb11 hbb0 hbm0
  go_wp2_with fail
  first | rw[hite]at HIT ⊢ | rw[hite]at HIT
  clear hite
  go_loopg [] l.length (fun gk wr => ∃ (left:List (Value × Value)) (lz:Lay),gk=left.length∧Hid (AIter strK wr m it (layV l) left)∧Hid (Since (fun g=>g=m0∨it≤g) w10 wr)∧Hid (AMap strK wr m0 (layV lz))∧Hid ((left=(layV l).map (fun x=>(strK.con x.1,x.2))∧lz=l0)∨(left = []∧lz=(l.foldl (fun a y=>setL a y.1 y.2) l0))))
  case atStart=>exact⟨_,l0,by simp[layV],HIT,HSA,HM0,kH (.inl ⟨rfl,rfl⟩)⟩
  case round =>
   obtain⟨left,lz,hgk',HI,HS',HM',HD'⟩:=hrel;have hb0r:=HB0.out.since HS'.out (by have:=HLT.out;omega)
   rcases run_next_am (P:=Tryz.prog) 0 HI.out (by have:=HLT.out;omega) with ⟨hl0,hnx⟩ | ⟨kv,vv,left',w2,hperm,hmem,hnx,hit2,hsn2,hsz2,hent⟩
   ·subst hl0
    have hlz:lz=(l.foldl (fun a y=>setL a y.1 y.2) l0):=by
     rcases HD'.out with ⟨h1,h2⟩ | ⟨-,h2⟩
     ·have h3:=congrArg List.length h1
      simp[layV]at h3;rw[h2,List.length_eq_zero_iff.1 h3.symm];rfl
     ·exact h2
    have hs0:Since (fun g=>g=m0) w10 wr:=⟨HS'.out.os,HS'.out.tape,HS'.out.output,HS'.out.size,fun g hg hn=>HS'.out.block g hg (fun h=>h.elim hn (fun h=>by have:=HLT.out;omega))⟩
    have HE:Hid (∃ V',RSAt E G Q.1 V' wr∧ScAt wr E.base (some ⟨b0,0,none⟩) Q.2 (m0 :: ms0)∧KX E (fun g=>g=E.vi∨(m0 :: ms0).head? = some g) w wr):=kH (by
     rw[← HQ2.out,← hlz]
     exact(H10.out.store hsep hs0 HM'.out (.inl (.inr rfl))).end_)
    clear hs0 hlz hb0r HI HS' HM' HD'
    go_wp2_with fail
    try simp only[Exit.inBlock,Exit.then]
    refine bodyPost_ret (results_none rfl _ _ _) rfl ?_;exact⟨rfl,HE.out⟩
   ·obtain⟨y,n,hl,hkv,hvv,hleft,hlz⟩:∃ y n,l = [(y,n)]∧kv = .string y∧vv = .int .i64 n∧left' = []∧lz=l0:=by
     rcases HD'.out with ⟨h1,h2⟩ | ⟨h1,-⟩
     ·have h3:=HL1.out
      cases hl:l with
      | nil =>
       rw[h1,hl]at hperm;exact absurd hperm.length_eq (by simp[layV])
      | cons z l' =>
       rw[hl]at h3
       have h4:l' = []:=by simp at h3;exact h3
       subst h4;obtain⟨y,n⟩:=z;rw[h1,hl]at hperm;have h5:=List.perm_singleton.1 hperm.symm;simp only[List.cons.injEq,Prod.mk.injEq]at h5;exact⟨y,n,rfl,h5.1.1,h5.1.2,h5.2,h2⟩
     ·rw[h1]at hperm
      exact absurd hperm.length_eq (by simp)
    subst hkv hvv hleft;obtain⟨w3,hrun,hm3,hg3,hz3⟩:=run_mapUpdate_am (P:=Tryz.prog) (KK:=strK) (t:=70) (kt:=9) (et:=3) Tryz.underlying70 Tryz.underlying9 (HM'.out.since hsn2 (by have:=HLT.out;omega)) y (.int .i64 n);change (Instr.mapUpdate 70 (.map (some m0)) (Value.string y) (.int .i64 n)).run Tryz.prog w2=_ at hrun;rw[setM_lay]at hm3;have hb0s:=hb0r.since hsn2 (by have:=HLT.out;omega);have e1:=hb0s.cell 1;have le:=hb0s.lt;have hs2:Since (fun g=>g=m0∨it≤g) w10 w2:=HS'.out.trans (Since.mono hsn2 (fun g hg=>.inr (by omega)));have hs3:Since (fun g=>g=m0∨it≤g) w10 w3:=hs2.trans ((Since.refl (fun g=>g=m0∨it≤g) w2).grown hg3 (fun k hk=>by cases hk;exact .inl (.inl rfl)));have hit3:=hit2.grown hg3 (by simp;have:=HLT.out;omega) (by simp;have:=HLT.out;omega);have HS3:=kH hs3;have HM3:=kH hm3;have HI3:=kH hit3;have HLL2:=kH hl;have HLZ:=kH hlz;have HPM:=kH hperm;clear hs2 hs3 hm3 hit3 hl hlz hperm hmem hit2 hsn2 hsz2 hg3 hz3 hb0r hb0s
    go_wp2_with fail
    go_roundg (gk - 1)
    case measure=>have h9:left.length=1:=HPM.out.length_eq;omega
    case rel =>
     refine⟨[],setL l0 y n,by have h9:left.length=1:=HPM.out.length_eq;show gk - 1=0;omega,HI3,HS3,?_,kH (.inr ⟨rfl,?_⟩)⟩
     ·rw[HLZ.out]at HM3
      exact HM3
     ·rw[HLL2.out]
      rfl
end Go.Proofs.YtoepemlnlpamlaaGreat
namespace Go.Proofs.YtoepemlnlpamlaaGreat
set_option maxRecDepth 100000
set_option maxHeartbeats 4000000
open Go.RowKit
theorem visit_do (E:RC) (G:Glob) (B:Nat) (hB:B≤E.base) (x:ByteArray) (a e:Int) (kids:List Tree) (hih:∀ k ∈ kids,VisitC E G B k):VisitC E G B (.node 19 x a e kids):=by
 intro i s p ms r V w A c h hs hsep hk hcap hbase hv hrb
 obtain⟨nk,hnk⟩:∃ q,kids.length=q:=⟨_,rfl⟩
 have hvk:VOks s.isEmpty kids=true:=by
  rw[VOk,if_neg (by decide),if_neg (by decide),if_neg (by decide)]at hv;exact hv
 have hq:visitM G i (Tree.node 19 x a e kids) s r=visitsM G i kids 0 kids.length s (useN G s r (entM r i (sortI (allS s))) (Tree.node 19 x a e kids)):=by
  rw[visitM_eq]
  repeat (rw[if_neg (by decide)])
 rw[hq]
 obtain⟨Q,hQ⟩:∃ Q,visitsM G i kids 0 kids.length s (useN G s r (entM r i (sortI (allS s))) (Tree.node 19 x a e kids))=Q:=⟨_,rfl⟩
 rw[hQ];have HQ:=kH hQ;clear hq hQ;unfold nodeV
 have hfive:(Tree.node 19 x a e kids).kind=19∧(Tree.node 19 x a e kids).text=x∧(Tree.node 19 x a e kids).at_=a∧(Tree.node 19 x a e kids).end_=e∧(Tree.node 19 x a e kids).kids=kids:=⟨rfl,rfl,rfl,rfl,rfl⟩
 rw[hfive.1,hfive.2.1,hfive.2.2.1,hfive.2.2.2.1,hfive.2.2.2.2,hnk];rw[hfive.2.2.2.2]at hk hcap;rw[hnk]at hcap
 obtain⟨nx,hnx⟩:∃ q,r.next=q:=⟨_,rfl⟩
 have hnb:nx≤1000000:=by have:=hrb.room;have:=hrb.most;omega
 have hnkb:nk≤1000000:=by have h1:=hrb.room;have h2:=hrb.most;have h3:=counts_len kids;rw[countM]at h1;omega
 have c7w:w.cell? ⟨E.rp,7,none⟩=some (.int .i64 (nx:Int)):=by rw[← hnx];exact h.blk.cell 7
 have hrw:=h.blk.lt;have hwn:IntKind.i64.wrap ((nx:Int)+1)=(nx:Int)+1:=IntWalk.i64_in _ (by omega);have hfx:=h.blk.frozen 7;have H:=kH h;have HS:=kH hs;have HK:=kH hk;have HRB:=kH hrb;have HNX:=kH hnx;have HNK:=kH hnk;have HVK:=kH hvk;have HIH:=kH hih;have HCAP:=kH hcap;have HBASE:=kH hbase;clear h hs hk hrb hnx hnk hvk hih hv hfive hcap hbase
 go_enter Tryz.func79,Tryz.ntmps79
 go_upto_if 32 with fail
 generalize hW3:(((w.setCell ⟨E.rp,7,none⟩ (.int .i64 ((nx:Int)+1))).alloc (.cells #[.pointer (some ⟨E.rp,0,none⟩)] 68)).alloc (.cells #[.int .i64 19,.string x,.int .i64 a,.int .i64 e,.slice A nk c] 24))=W3
 obtain⟨hr3,hk3⟩:=H.out.setNext (nx+1) (fun _=>False)
 have hbW:Below w.heap.size (w.setCell ⟨E.rp,7,none⟩ (.int .i64 ((nx:Int)+1))) W3:=by
  rw[← hW3];have h1:=below_alloc (w.setCell ⟨E.rp,7,none⟩ (.int .i64 ((nx:Int)+1))) (.cells #[.pointer (some ⟨E.rp,0,none⟩)] 68);have h2:=below_alloc ((w.setCell ⟨E.rp,7,none⟩ (.int .i64 ((nx:Int)+1))).alloc (.cells #[.pointer (some ⟨E.rp,0,none⟩)] 68)) (.cells #[.int .i64 19,.string x,.int .i64 a,.int .i64 e,.slice A nk c] 24);have h3:=h1.trans (h2.mono (by simp))
  simpa using h3
 have hsz3:W3.heap.size=w.heap.size+2:=by rw[← hW3];simp
 have hn3:Blk W3 (w.heap.size+1) 24 #[.int .i64 19,.string x,.int .i64 a,.int .i64 e,.slice A nk c]:=by
  have:=Blk.new ((w.setCell ⟨E.rp,7,none⟩ (.int .i64 ((nx:Int)+1))).alloc (.cells #[.pointer (some ⟨E.rp,0,none⟩)] 68)) 24 #[.int .i64 19,.string x,.int .i64 a,.int .i64 e,.slice A nk c];rw[hW3]at this
  simpa using this
 have hp3:Blk W3 w.heap.size 68 #[.pointer (some ⟨E.rp,0,none⟩)]:=by
  have:=(Blk.new (w.setCell ⟨E.rp,7,none⟩ (.int .i64 ((nx:Int)+1))) 68 #[.pointer (some ⟨E.rp,0,none⟩)]).alloc (.cells #[.int .i64 19,.string x,.int .i64 a,.int .i64 e,.slice A nk c] 24);rw[hW3]at this
  simpa using this
 have HR3:Hid (RSAt E G { r with next:=nx+1 } V W3):=kH (hr3.below (by simpa using hbW));have HK3:Hid (KX E (fun _=>False) w W3):=kH (hk3.trans (KX.of_below (M:=fun _=>False) (by simpa using hbW)) (fun g hg=>.inl hg));have HS3:Hid (ScAt W3 E.base p s ms):=kH (ScAt.kx HK3.out H.out.notScope HS.out (fun _ _ h=>h));have HN3:=kH hn3;have HP3:=kH hp3;have HSZ3:=kH hsz3;have c5:W3.cell? ⟨E.rp,5,none⟩=some (.map (some E.vi)):=HR3.out.blk.cell 5;have p0:=hp3.cell 0;have lr3:=HR3.out.blk.lt;have lp3:=hp3.lt;clear hW3 hr3 hk3 hbW hn3 hp3 hsz3 c7w hfx
 go_cut [] (fun wx => ∃ Vx,Hid (RSAt E G (entM r i (sortI (allS s))) Vx wx)∧Hid (KX E (fun g=>g=E.vi) W3 wx))
 case first =>
  cases i with
  | false =>
   go_wp2_with fail
   go_meet
   exact⟨V,by have:=HR3.out;rw[← HNX.out]at this;exact kH this,kH (KX.refl _ _ _)⟩
  | true =>
   have hbz:E.base≤W3.heap.size:=Nat.le_trans HBASE.out HK3.out.size;have hall:=all_any E.base s p ms W3.drew (ScAt.below ((Below.refl _ W3).drew) HS3.out) (by have:=HRB.out.all_;have:=HNX.out;omega);have HALL:=kH hall
   have hKS:∀ w':World,Since (fun g=>g=E.vi) W3 w'→w'.cell? ⟨E.rp,5,none⟩=some (.map (some E.vi))∧w'.cell? ⟨w.heap.size,0,none⟩=some (.pointer (some ⟨E.rp,0,none⟩)):=fun w' hw=>by
    have nm:∀ {g:Nat} {t:TypeId} {cs:Array Value},Blk W3 g t cs→g≠E.vi:=fun hb e=>by
     obtain⟨es,ck,ho⟩:=HR3.out.vi.isMap;subst e;have:W3.heap[_]? = some (Obj.cells _ _ (0,0)):=hb;rw[ho]at this
     cases this
    exact⟨(HR3.out.blk.since hw (nm HR3.out.blk)).cell 5,(HP3.out.since hw (nm HP3.out)).cell 0⟩
   have HKS:=kH hKS;have hs0:Since (fun g=>g=E.vi) W3 W3.drew:=(Since.refl _ W3).drew
   have hvn:(nx:Int) ∉ r.vis.map (·.1):=fun hm=>by
    obtain⟨y,hy,he⟩:=List.mem_map.1 hm;have:=HRB.out.vis y hy;have:=HNX.out;omega
   have HVN:=kH hvn;clear hall hKS hvn
   go_wp2_with fail
   go_region_held3 (fun w'=>w'.cell? ⟨E.rp,5,none⟩=some (.map (some E.vi))∧w'.cell? ⟨w.heap.size,0,none⟩=some (.pointer (some ⟨E.rp,0,none⟩))) (exact HKS.out _ (by assumption)) ((go_at_call 145;refine HALL.out.mono ?_;rintro e5 w5 ⟨v5,rfl,ho5,hb5⟩;have hs5:=hs0.below hb5;obtain⟨w6,hrun,hm6,hg6,hz6⟩:=run_mapUpdate_am (P:=Tryz.prog) (KK:=intK) (t:=72) (kt:=3) (et:=28) Tryz.underlying72 Tryz.underlying3 ((AMap.drew HR3.out.vi).beh hb5) (nx:Int) v5;change (Instr.mapUpdate 72 (.map (some E.vi)) (Value.int .i64 (nx:Int)) v5).run Tryz.prog w5=_ at hrun;have hs6:Since (fun g=>g=E.vi) w5 w6:=(Since.refl (fun g=>g=E.vi) w5).grown hg6 (fun k hk=>by cases hk;exact .inl rfl);have hs7:=hs5.trans hs6))
   have hlen:(sortI (allS s)).length=(allS s).length:=List.length_mergeSort _;have hb35:Below W3.heap.size W3 w5:=((Below.refl _ W3).drew).trans hb5;have hnote:=HR3.out.noteVis hbz hb35 (nx:Int) (sortI (allS s)) v5 (by rw[hlen];exact ho5) HVN.out (fun g=>g=E.vi) rfl hm6 hs6;have HNOTE:=kH hnote;clear hnote hs5 hs6 hs7 hz6 hm6 hb35 hb5 ho5 hs0 hrun hg6
   go_wp2_with fail
   go_meet
   exact⟨_,by have:=HNOTE.out.1;rw[← HNX.out]at this;exact kH this,kH HNOTE.out.2⟩
 case rest =>
  obtain⟨Vx,HRX,HKX⟩:=hcut;have HKW:Hid (KX E (fun g=>g=E.vi) w wc):=kH ((HK3.out.mono (fun _ hf=>hf.elim)).trans HKX.out (fun g hg=>.inl hg));have HV:Hid (VW E G B ⟨kids,19,x,a,e,A,nk,c,w.heap.size+1,w.heap.size⟩ w (fun g=>g=E.vi∨ms.head? = some g) (entM r i (sortI (allS s))) Vx s p ms wc):=kH ⟨HRX.out,ScAt.kx HKX.out HR3.out.notScope HS3.out (fun m hm e=>(hsep.apart m hm).2.2.2 e),HR3.out.node_at HKX.out HN3.out,HR3.out.ptr_at HKX.out HP3.out,HKW.out.mono (fun _ h=>.inl h),KidsAt.below ((KX.low HKW.out HBASE.out).mono hB) (Nat.le_refl _) _ _ _ HK.out,Nat.le_trans HBASE.out (KX.low HKW.out HBASE.out).size,hB⟩
  have hlk:=fun q=>lookupOk_lay (wc.drewN q) E.g G.globals (AMap.drewN HRX.out.gl q) x
  obtain⟨gi,hgi⟩:∃ q,(lookL G.globals x).getD 0=q:=⟨_,rfl⟩
  obtain⟨gb,hgb⟩:∃ q,(lookL G.globals x).isSome=q:=⟨_,rfl⟩
  rw[hgi,hgb]at hlk;obtain⟨⟨q0,lp⟩,⟨n0,n1,n2,n3,n4,ln⟩,⟨c0,c1,c2,c8,lr⟩⟩:=HV.out.cells;have HGI:=kH hgi;have HGB:=kH hgb
  have hD:(entM r i (sortI (allS s))).ds.length≤1000000:=by show r.ds.length≤_;have:=HRB.out.ds;have:=HNX.out;omega
  have hP:(entM r i (sortI (allS s))).probs.length≤1000000:=by show r.probs.length≤_;have:=HRB.out.probs;have:=HNX.out;omega
  have hU:nx < (entM r i (sortI (allS s))).uses.length:=by show nx < r.uses.length;have h1:=HRB.out.room;have h2:=HNX.out;rw[countM]at h1;omega
  have HD:=kH hD;have HPR:=kH hP;have HU:=kH hU
  have hqn:∀ u:RS,u.next=r.next+1→u.next≤r.next+1+countsM ((Tree.node 19 x a e kids).kids.take 0):=fun u hu=>by rw[hu];exact Nat.le_add_right _ _
  have HQN:=kH hqn;clear hgi hgb c5 p0 lr3 lp3 hqn hD hP hU c8
  obtain⟨tq,htq⟩:∃ tq,((layM G.globals x).filter fun j=>decide (kindAt G j=5))=tq:=⟨_,rfl⟩
  have HTQ:=kH htq
  have hQ2:visitsM G i kids 0 nk s (useM (entM r i (sortI (allS s))) nx (Tree.node 19 x a e kids) tq)=Q:=by
   rw[← HQ.out,HNK.out,← htq,← HNX.out];rfl
  have HQ2:=kH hQ2;have HSL:Hid (Slow r (useM (entM r i (sortI (allS s))) nx (Tree.node 19 x a e kids) tq)):=kH (by have:=slow_steps.useM_ r i (sortI (allS s)) (Tree.node 19 x a e kids) tq;rw[HNX.out]at this;exact this);have HNE:Hid ((useM (entM r i (sortI (allS s))) nx (Tree.node 19 x a e kids) tq).next=r.next+1):=kH (by cases tq <;> rfl);clear hQ2
  obtain⟨kk,hkk⟩:∃ q,kindAt G gi=q:=⟨_,rfl⟩
  have hty:∀ k,tq=some k→k=gi:=fun k hk=>by
   rw[← htq]at hk;rw[← HGI.out]
   cases hl:lookL G.globals x with
   | none=>rw[show layM G.globals x=none from hl]at hk;cases hk
   | some y =>
    rw[show layM G.globals x=some y from hl]at hk;have:=(Option.filter_eq_some_iff.1 hk).1;simp only[Option.some.injEq]at this;rw[← this];rfl
  have htb:tq.isSome=(gb && (kk == 5)):=by
   rw[← htq,← HGB.out,← hkk,← HGI.out]
   cases hl:lookL G.globals x with
   | none=>rw[show layM G.globals x=none from hl];rfl
   | some y =>
    rw[show layM G.globals x=some y from hl];show (Option.filter (fun j=>decide (kindAt G j=5)) (some y)).isSome=(true && (kindAt G y == 5))
    by_cases hy:kindAt G y=5
    ·simp[hy]
    ·simp[hy]
  have hKS:∀ r' V' w',VW E G B ⟨kids,19,x,a,e,A,nk,c,w.heap.size+1,w.heap.size⟩ w (fun g=>g=E.vi∨ms.head? = some g) r' V' s p ms w'→(w'.cell? ⟨w.heap.size,0,none⟩=some (.pointer (some ⟨E.rp,0,none⟩))∧w'.cell? ⟨w.heap.size+1,0,none⟩=some (.int .i64 19)∧w'.cell? ⟨w.heap.size+1,1,none⟩=some (.string x)∧w'.cell? ⟨w.heap.size+1,2,none⟩=some (.int .i64 a)∧w'.cell? ⟨w.heap.size+1,3,none⟩=some (.int .i64 e)∧w'.cell? ⟨w.heap.size+1,4,none⟩=some (.slice A nk c)∧w'.cell? ⟨E.rp,2,none⟩=some (.map (some E.k))∧(Instr.lookup 71 (.map (some E.k)) (.int .i64 gi) false).run Tryz.prog w' = .ok (.int .i64 kk) w'):=fun r' V' w' hv=>by
   obtain⟨⟨y0,-⟩,⟨z0,z1,z2,z3,z4,-⟩,⟨-,-,d2,-,-⟩⟩:=hv.cells;exact⟨y0,z0,z1,z2,z3,z4,d2,by have:=lookup_int w' E.k G.kinds hv.R.kn gi;rw[show (lookL G.kinds gi).getD 0=kk from hkk]at this;exact this⟩
  have HKS:=kH hKS
  have huse:=fun q=>((HV.out.drewN q).drew).use_ (Tree.node 19 x a e kids) ⟨rfl,rfl,rfl,rfl,rfl⟩ HNK.out HPR.out nx HU.out tq gi hty
  rw[htb]at huse
  have hvq:=fun q=>(HV.out.drewN q).drew
  have HVQ:=kH hvq
  have hlf:=fun q=>lookup_int (wc.drewN q) E.k G.kinds (AMap.drewN HRX.out.kn q) gi
  rw[show (lookL G.kinds gi).getD 0=kk from hkk]at hlf;clear hKS hvq htq hty htb hkk
  cases gb with
  | false =>
   rw[Bool.false_and]at huse;have HUS:=kH huse;clear huse
   go_wp2_with fail
   go_quiet (fail)
   go_wp2_with fail
   have hS0:=HKS.out _ _ _ (HVQ.out nq);refine wp_region_HG (fun w'=>(w'.cell? ⟨w.heap.size,0,none⟩=some (.pointer (some ⟨E.rp,0,none⟩))∧w'.cell? ⟨w.heap.size+1,0,none⟩=some (.int .i64 19)∧w'.cell? ⟨w.heap.size+1,1,none⟩=some (.string x)∧w'.cell? ⟨w.heap.size+1,2,none⟩=some (.int .i64 a)∧w'.cell? ⟨w.heap.size+1,3,none⟩=some (.int .i64 e)∧w'.cell? ⟨w.heap.size+1,4,none⟩=some (.slice A nk c)∧w'.cell? ⟨E.rp,2,none⟩=some (.map (some E.k))∧(Instr.lookup 71 (.map (some E.k)) (.int .i64 gi) false).run Tryz.prog w' = .ok (.int .i64 kk) w')) [] [true,true,true,true,true,true,true,true,true,true,true,true,true,true,false] (by kernel_rfl) (by kernel_rfl) rfl (by kernel_rfl) ?_
   iterate 14((first | (refine wpHG_off (by rfl) hS0 ?_) | (refine wpHG_soft (by rfl) hS0 (by intro w' hSw;obtain⟨hs1,hs2,hs3,hs4,hs5,hs6,hs7,hs8⟩:=hSw;go_simp;rfl) ?_));simp only[Act.put,sA,sZ,sC])
   refine wpHG_call (by rfl) (by go_simp) ((HUS.out _).mono ?_);rintro e8 w8 ⟨rfl,V8,h8⟩;refine⟨_,rfl,fun _=>HKS.out _ _ _ h8,?_⟩;simp only[Act.put,sA,sZ,sC];refine wpHG_nil ?_;obtain⟨⟨q8,lq8⟩,⟨-,-,-,-,n8,ln8⟩,-⟩:=h8.cells;have hcall:=h8.kids HIH.out i 0 nk nk (by omega) HNK.out (by show 0+nk≤nk;omega) HCAP.out HVK.out (HRB.out.kids (t:=(Tree.node 19 x a e kids)) HSL.out (Nat.add_le_add_left HSL.out.next _) (HQN.out _ HNE.out)) hsep (fun g hg=>.inl hg);rw[HQ2.out]at hcall;have HC:=kH hcall;clear hcall h8
   go_wp2_with fail
   refine HC.out.mono ?_;rintro e10 w10 ⟨rfl,-,V10,h10⟩;have HE:Hid (∃ V',RSAt E G Q.1 V' w10∧ScAt w10 E.base p Q.2 ms∧KX E (fun g=>g=E.vi∨ms.head? = some g) w w10):=kH h10.end_;clear h10 HC q8 n8
   go_wp2_with fail
   go_end0
   exact⟨rfl,HE.out⟩
  | true =>
   rw[Bool.true_and]at huse;have HUS:=kH huse;clear huse
   go_wp2_with fail
   go_quiet (fail)
   go_wp2_with fail
   have hS0:=HKS.out _ _ _ (HVQ.out nq);refine wp_region_HG (fun w'=>(w'.cell? ⟨w.heap.size,0,none⟩=some (.pointer (some ⟨E.rp,0,none⟩))∧w'.cell? ⟨w.heap.size+1,0,none⟩=some (.int .i64 19)∧w'.cell? ⟨w.heap.size+1,1,none⟩=some (.string x)∧w'.cell? ⟨w.heap.size+1,2,none⟩=some (.int .i64 a)∧w'.cell? ⟨w.heap.size+1,3,none⟩=some (.int .i64 e)∧w'.cell? ⟨w.heap.size+1,4,none⟩=some (.slice A nk c)∧w'.cell? ⟨E.rp,2,none⟩=some (.map (some E.k))∧(Instr.lookup 71 (.map (some E.k)) (.int .i64 gi) false).run Tryz.prog w' = .ok (.int .i64 kk) w')) [] [true,true,true,true,true,true,true,true,true,true,true,true,true,true,false] (by kernel_rfl) (by kernel_rfl) rfl (by kernel_rfl) ?_
   iterate 14((first | (refine wpHG_off (by rfl) hS0 ?_) | (refine wpHG_soft (by rfl) hS0 (by intro w' hSw;obtain⟨hs1,hs2,hs3,hs4,hs5,hs6,hs7,hs8⟩:=hSw;go_simp;rfl) ?_));simp only[Act.put,sA,sZ,sC])
   refine wpHG_call (by rfl) (by go_simp) ((HUS.out _).mono ?_);rintro e8 w8 ⟨rfl,V8,h8⟩;refine⟨_,rfl,fun _=>HKS.out _ _ _ h8,?_⟩;simp only[Act.put,sA,sZ,sC];refine wpHG_nil ?_;obtain⟨⟨q8,lq8⟩,⟨-,-,-,-,n8,ln8⟩,-⟩:=h8.cells;have hcall:=h8.kids HIH.out i 0 nk nk (by omega) HNK.out (by show 0+nk≤nk;omega) HCAP.out HVK.out (HRB.out.kids (t:=(Tree.node 19 x a e kids)) HSL.out (Nat.add_le_add_left HSL.out.next _) (HQN.out _ HNE.out)) hsep (fun g hg=>.inl hg);rw[HQ2.out]at hcall;have HC:=kH hcall;clear hcall h8
   go_wp2_with fail
   refine HC.out.mono ?_;rintro e10 w10 ⟨rfl,-,V10,h10⟩;have HE:Hid (∃ V',RSAt E G Q.1 V' w10∧ScAt w10 E.base p Q.2 ms∧KX E (fun g=>g=E.vi∨ms.head? = some g) w w10):=kH h10.end_;clear h10 HC q8 n8
   go_wp2_with fail
   go_end0
   exact⟨rfl,HE.out⟩
end Go.Proofs.YtoepemlnlpamlaaGreat
