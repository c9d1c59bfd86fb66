/- The law NamesFreeAt holds: for every text and every number the law returns true, and its arguments read as before. No condition. Part 22: Nam9 Vis3 VisW VisA0. -/
import Derived.Test.YtoepemlnlpamlaaGreatFreeAt21
namespace Go.Proofs.YtoepemlnlpamlaaGreat
set_option maxRecDepth 100000
set_option maxHeartbeats 4000000
open Go.RowKit
theorem RSAt.setNext {E:RC} {G:Glob} {r:RS} {V:RV} {w:World} (h:RSAt E G r V w) (n:Nat) (M:Nat→Prop) :
 RSAt E G { r with next:=n } V (w.setCell ⟨E.rp,7,none⟩ (.int .i64 (n:Int)))∧KX E M w (w.setCell ⟨E.rp,7,none⟩ (.int .i64 (n:Int))):=by
 have hs:Since (fun g=>g=E.rp) w (w.setCell ⟨E.rp,7,none⟩ (.int .i64 (n:Int))):=Since.setCell (S:=fun g=>g=E.rp) (Since.refl _ w) (p:=⟨E.rp,7,none⟩) (.inl rfl) _
 have ham:∀ {K:Type} [DecidableEq K] {KK:KeyK K} {q:Nat} {m:List (K × Value)},AMap KK w q m→AMap KK (w.setCell ⟨E.rp,7,none⟩ (.int .i64 (n:Int))) q m:=fun ha=>ha.since hs (fun h1=>ha.not_blk h.blk h1)
 have how:∀ {e size v n' xs},OwnS w E.base e size v n' xs→e≠75→OwnS (w.setCell ⟨E.rp,7,none⟩ (.int .i64 (n:Int))) E.base e size v n' xs:=fun ha h1=>ha.since hs (fun g hg h3=>ha.ne_blk h.blk h1 (by rw[hg,h3]))
 refine⟨⟨?_,ham h.gl,ham h.fl,ham h.kn,ham h.vi,?_,how h.ds (by decide),how h.us (by decide),how h.ps (by decide),h.low,h.apart⟩,?_⟩
 ·have:=h.blk.set_ 7 (.int .i64 (n:Int))
  simpa using this
 ·refine VisAt.of_block h.vis fun g cur hg _=>hs.block g (Array.getElem?_eq_some_iff.1 hg).1 fun h1=>?_
  subst h1;have hb:w.heap[E.rp]? = some (.cells _ 75 (0,0)):=h.blk;rw[hb]at hg;simp at hg
 ·refine Since.mono hs fun g h1=>?_
  subst h1;exact⟨h.low.1,.inl ⟨_,_,_,h.blk,.inl rfl⟩⟩
theorem RSAt.setOwner {E:RC} {G:Glob} {r:RS} {V:RV} {w:World} (h:RSAt E G r V w) (n:Int) (M:Nat→Prop) :
 RSAt E G { r with owner:=n } V (w.setCell ⟨E.rp,8,none⟩ (.int .i64 n))∧KX E M w (w.setCell ⟨E.rp,8,none⟩ (.int .i64 n)):=by
 have hs:Since (fun g=>g=E.rp) w (w.setCell ⟨E.rp,8,none⟩ (.int .i64 n)):=Since.setCell (S:=fun g=>g=E.rp) (Since.refl _ w) (p:=⟨E.rp,8,none⟩) (.inl rfl) _
 have ham:∀ {K:Type} [DecidableEq K] {KK:KeyK K} {q:Nat} {m:List (K × Value)},AMap KK w q m→AMap KK (w.setCell ⟨E.rp,8,none⟩ (.int .i64 n)) q m:=fun ha=>ha.since hs (fun h1=>ha.not_blk h.blk h1)
 have how:∀ {e size v n' xs},OwnS w E.base e size v n' xs→e≠75→OwnS (w.setCell ⟨E.rp,8,none⟩ (.int .i64 n)) E.base e size v n' xs:=fun ha h1=>ha.since hs (fun g hg h3=>ha.ne_blk h.blk h1 (by rw[hg,h3]))
 refine⟨⟨?_,ham h.gl,ham h.fl,ham h.kn,ham h.vi,?_,how h.ds (by decide),how h.us (by decide),how h.ps (by decide),h.low,h.apart⟩,?_⟩
 ·have:=h.blk.set_ 8 (.int .i64 n)
  simpa using this
 ·refine VisAt.of_block h.vis fun g cur hg _=>hs.block g (Array.getElem?_eq_some_iff.1 hg).1 fun h1=>?_
  subst h1;have hb:w.heap[E.rp]? = some (.cells _ 75 (0,0)):=h.blk;rw[hb]at hg;simp at hg
 ·refine Since.mono hs fun g h1=>?_
  subst h1;exact⟨h.low.1,.inl ⟨_,_,_,h.blk,.inl rfl⟩⟩
theorem VisAt.snoc {w:World} {base:Nat} {ub:Option Nat} {k:Int} {l0:List Int} {v:Value} (ho:OwnS w base 3 1 v l0.length (ivs l0)) (hu:∀ g,v.ownBlock=some g→ub≠some g):∀ {l:List (Int × List Int)} {vals:List (Int × Value)},VisAt w base ub l vals→(∀ g,v.ownBlock=some g→∀ y ∈ vals,y.2.ownBlock≠some g)→VisAt w base ub (l ++ [(k,l0)]) (vals ++ [(k,v)])
 | [],vals,h,hn=>by
  have:vals = []:=h;subst this;exact⟨v,[],rfl,ho,fun g hg=>⟨hu g hg,by simp⟩,rfl⟩
 | x :: l,vals,h,hn=>by
  obtain⟨v1,vs,rfl,h2,h3,h4⟩:=h;refine⟨v1,vs ++ [(k,v)],rfl,h2,fun g hg=>⟨(h3 g hg).1,fun y hy=>?_⟩,VisAt.snoc ho hu h4 fun g hg y hy=>hn g hg y (by simp[hy])⟩
  rcases List.mem_append.1 hy with hy | hy
  ·exact(h3 g hg).2 y hy
  ·rw[List.mem_singleton]at hy
   subst hy
   exact fun e=>hn g e (x.1,v1) (by simp) hg
theorem VisAt.lt {w:World} {base:Nat} {ub:Option Nat}:∀ {l:List (Int × List Int)} {vals:List (Int × Value)},VisAt w base ub l vals→∀ y ∈ vals,∀ g,y.2.ownBlock=some g→g < w.heap.size
 | [],vals,h,y,hy=>by
  have:vals = []:=h;subst this
  cases hy
 | x :: l,vals,h,y,hy=>by
  obtain⟨v1,vs,rfl,h2,h3,h4⟩:=h
  rcases List.mem_cons.1 hy with rfl | hy
  ·exact fun g hg=>(h2.lt g hg).2
  ·exact VisAt.lt h4 y hy
theorem VisAt.keys {w:World} {base:Nat} {ub:Option Nat}:∀ {l:List (Int × List Int)} {vals:List (Int × Value)},VisAt w base ub l vals→vals.map (·.1)=l.map (·.1)
 | [],vals,h=>by
  have:vals = []:=h;subst this;rfl
 | x :: l,vals,h=>by
  obtain⟨v1,vs,rfl,h2,h3,h4⟩:=h;simp[VisAt.keys h4]
theorem setM_new {K:Type} [DecidableEq K]:∀ {m:List (K × Value)} {k:K} (v:Value),k ∉ m.map (·.1)→setM m k v=m ++ [(k,v)]
 | [],_,_,_=>rfl
 | x :: m,k,v,h=>by
  rw[List.map_cons,List.mem_cons]at h
  have hk:k≠x.1:=fun e=>h (.inl e)
  rw[setM_cons_ne _ _ _ _ hk,setM_new v fun h1=>h (.inr h1)];rfl
theorem setL_new1 {K V:Type} [DecidableEq K]:∀ {l:List (K × V)} {k:K} (v:V),k ∉ l.map (·.1)→setL l k v=l ++ [(k,v)]
 | [],_,_,_=>rfl
 | x :: l,k,v,h=>by
  rw[List.map_cons,List.mem_cons]at h
  have hk:k≠x.1:=fun e=>h (.inl e)
  rw[setL,if_neg hk,setL_new1 v fun h1=>h (.inr h1)];rfl
theorem RSAt.noteVis {E:RC} {G:Glob} {r:RS} {V:RV} {w w1 w':World} (h:RSAt E G r V w) (hbs:E.base≤w.heap.size) (hb:Below w.heap.size w w1) (n:Int) (l:List Int) (v:Value) (ho:OwnS w1 w.heap.size 3 1 v l.length (ivs l)) (hn:n ∉ r.vis.map (·.1)) (M:Nat→Prop) (hM:M E.vi)
 (hm:AMap intK w' E.vi (setM V.vals n v)) (hs:Since (fun g=>g=E.vi) w1 w') :
 RSAt E G { r with vis:=setL r.vis n l } { V with vals:=setM V.vals n v } w'∧KX E M w w':=by
 have h1:=h.below hb;have hmap:=h1.vi.isMap
 have hnot:∀ {g:Nat} {t:TypeId} {cs:Array Value},Blk w1 g t cs→g≠E.vi:=fun hb e=>by
  obtain⟨es,ck,ho⟩:=hmap;subst e;have:w1.heap[_]? = some (Obj.cells _ _ (0,0)):=hb;rw[ho]at this
  cases this
 have how:∀ {e size v n xs base},OwnS w1 base e size v n xs→OwnS w' base e size v n xs:=fun ha=>ha.since hs (fun g hg e=>by
  subst e;obtain⟨cur,hc⟩:=ha.obj _ hg;obtain⟨es,ck,ho⟩:=hmap;rw[ho]at hc
  cases hc)
 have hkeys:n ∉ V.vals.map (·.1):=by rw[h.vis.keys];exact hn
 refine⟨⟨h1.blk.since hs (hnot h1.blk),h1.gl.since hs (fun e=>h.apart.1 e.symm),h1.fl.since hs (fun e=>h.apart.2.1 e.symm),h1.kn.since hs (fun e=>h.apart.2.2 e.symm),hm,?_,how h1.ds,how h1.us,how h1.ps,h.low,h.apart⟩,?_⟩
 ·show VisAt w' E.base (Value.slice E.uA r.uses.length E.uc).ownBlock (setL r.vis n l) (setM V.vals n v)
  rw[setL_new1 l hn,setM_new v hkeys];refine VisAt.snoc (how (ho.mono hbs)) (fun g hg e=>?_) (VisAt.of_block h1.vis fun g cur hg _=>hs.block g (Array.getElem?_eq_some_iff.1 hg).1 fun e=>?_) (fun g hg y hy e=>?_)
  ·have h3:=(ho.lt g hg).1
   have h4:=(h.us.lt g e).2;omega
  ·subst e
   obtain⟨es,ck,ho⟩:=hmap;rw[ho]at hg
   cases hg
  ·have h3:=(ho.lt g hg).1
   have h4:=h.vis.lt y hy g e;omega
 ·exact(KX.of_below (M:=M) hb).trans (KX.map_ hs hM h.low.2 hmap) (fun g hg=>.inl hg)
theorem RSAt.node_at {E:RC} {G:Glob} {r:RS} {V:RV} {w w':World} {M:Nat→Prop} (h:RSAt E G r V w) (hk:KX E M w w') {g:Nat} {cs:Array Value} (hb:Blk w g 24 cs):Blk w' g 24 cs:=hk.blk hb (by decide) (by decide) (by decide) (h.notNode hb)
theorem RSAt.ptr_at {E:RC} {G:Glob} {r:RS} {V:RV} {w w':World} {M:Nat→Prop} (h:RSAt E G r V w) (hk:KX E M w w') {g:Nat} {cs:Array Value} (hb:Blk w g 68 cs):Blk w' g 68 cs:=hk.blk hb (by decide) (by decide) (by decide) (h.notPtr hb)
end Go.Proofs.YtoepemlnlpamlaaGreat
namespace Go.Proofs.YtoepemlnlpamlaaGreat
set_option maxRecDepth 100000
set_option maxHeartbeats 4000000
open Go.RowKit
theorem bne_dec (a b:Int):(a != b)=decide (a≠b):=by by_cases h:a=b <;> simp[h]
theorem visit_record (E:RC) (G:Glob) (B:Nat) (hB:B≤E.base) (x:ByteArray) (a e:Int) (kids:List Tree) (hih:∀ k ∈ kids,VisitC E G B k):VisitC E G B (.node 3 x a e kids):=by
 intro i s p ms r V w A c h hs hsep hk hcap hbase hv hrb
 obtain⟨nk,hnk⟩:∃ q,kids.length=q:=⟨_,rfl⟩
 have hvk:VOks s.isEmpty kids=true:=by
  rw[VOk,if_neg (by decide),if_neg (by decide),if_neg (by decide)]at hv;exact hv
 have hq:visitM G i (.node 3 x a e kids) s r=visitsM G i kids 0 kids.length s { declareM (entM r i (sortI (allS s))) 0 r.next (.node 3 x a e kids) (decide ((layM G.globals x).getD 0≠(r.next:Int))) with owner:=(r.next:Int) }:=by rw[visitM_eq,if_pos rfl]
 rw[hq,hnk]
 obtain⟨Q,hQ⟩:∃ Q,visitsM G i kids 0 nk s { declareM (entM r i (sortI (allS s))) 0 r.next (.node 3 x a e kids) (decide ((layM G.globals x).getD 0≠(r.next:Int))) with owner:=(r.next:Int) } = Q:=⟨_,rfl⟩
 rw[hQ];have HQ:=kH hQ;clear hq hQ;unfold nodeV
 have hfive:(Tree.node 3 x a e kids).kind=3∧(Tree.node 3 x a e kids).text=x∧(Tree.node 3 x a e kids).at_=a∧(Tree.node 3 x a e kids).end_=e∧(Tree.node 3 x a e kids).kids=kids:=⟨rfl,rfl,rfl,rfl,rfl⟩
 rw[hfive.1,hfive.2.1,hfive.2.2.1,hfive.2.2.2.1,hfive.2.2.2.2,hnk];rw[hfive.2.2.2.2]at hk hcap;rw[hnk]at hcap
 obtain⟨nx,hnx⟩:∃ q,r.next=q:=⟨_,rfl⟩
 have hnb:nx≤1000000:=by have:=hrb.room;have:=hrb.most;omega
 have c7w:w.cell? ⟨E.rp,7,none⟩=some (.int .i64 (nx:Int)):=by rw[← hnx];exact h.blk.cell 7
 have hrw:=h.blk.lt;have hwn:IntKind.i64.wrap ((nx:Int)+1)=(nx:Int)+1:=IntWalk.i64_in _ (by omega);have hfx:=h.blk.frozen 7;have H:=kH h;have HS:=kH hs;have HK:=kH hk;have HRB:=kH hrb;have HNX:=kH hnx;have HNK:=kH hnk;have HVK:=kH hvk;have HIH:=kH hih;have HCAP:=kH hcap;have HBASE:=kH hbase;clear h hs hk hrb hnx hnk hvk hih hv hfive hcap hbase
 go_enter Tryz.func79,Tryz.ntmps79
 go_upto_if 32 with fail
 generalize hW3:(((w.setCell ⟨E.rp,7,none⟩ (.int .i64 ((nx:Int)+1))).alloc (.cells #[.pointer (some ⟨E.rp,0,none⟩)] 68)).alloc (.cells #[.int .i64 3,.string x,.int .i64 a,.int .i64 e,.slice A nk c] 24))=W3
 obtain⟨hr3,hk3⟩:=H.out.setNext (nx+1) (fun _=>False)
 have hbW:Below w.heap.size (w.setCell ⟨E.rp,7,none⟩ (.int .i64 ((nx:Int)+1))) W3:=by
  rw[← hW3];have h1:=below_alloc (w.setCell ⟨E.rp,7,none⟩ (.int .i64 ((nx:Int)+1))) (.cells #[.pointer (some ⟨E.rp,0,none⟩)] 68);have h2:=below_alloc ((w.setCell ⟨E.rp,7,none⟩ (.int .i64 ((nx:Int)+1))).alloc (.cells #[.pointer (some ⟨E.rp,0,none⟩)] 68)) (.cells #[.int .i64 3,.string x,.int .i64 a,.int .i64 e,.slice A nk c] 24);have h3:=h1.trans (h2.mono (by simp))
  simpa using h3
 have hsz3:W3.heap.size=w.heap.size+2:=by rw[← hW3];simp
 have hn3:Blk W3 (w.heap.size+1) 24 #[.int .i64 3,.string x,.int .i64 a,.int .i64 e,.slice A nk c]:=by
  have:=Blk.new ((w.setCell ⟨E.rp,7,none⟩ (.int .i64 ((nx:Int)+1))).alloc (.cells #[.pointer (some ⟨E.rp,0,none⟩)] 68)) 24 #[.int .i64 3,.string x,.int .i64 a,.int .i64 e,.slice A nk c];rw[hW3]at this
  simpa using this
 have hp3:Blk W3 w.heap.size 68 #[.pointer (some ⟨E.rp,0,none⟩)]:=by
  have:=(Blk.new (w.setCell ⟨E.rp,7,none⟩ (.int .i64 ((nx:Int)+1))) 68 #[.pointer (some ⟨E.rp,0,none⟩)]).alloc (.cells #[.int .i64 3,.string x,.int .i64 a,.int .i64 e,.slice A nk c] 24);rw[hW3]at this
  simpa using this
 have HR3:Hid (RSAt E G { r with next:=nx+1 } V W3):=kH (hr3.below (by simpa using hbW));have HK3:Hid (KX E (fun _=>False) w W3):=kH (hk3.trans (KX.of_below (M:=fun _=>False) (by simpa using hbW)) (fun g hg=>.inl hg));have HS3:Hid (ScAt W3 E.base p s ms):=kH (ScAt.kx HK3.out H.out.notScope HS.out (fun _ _ h=>h));have HN3:=kH hn3;have HP3:=kH hp3;have HSZ3:=kH hsz3;have c5:W3.cell? ⟨E.rp,5,none⟩=some (.map (some E.vi)):=HR3.out.blk.cell 5;have p0:=hp3.cell 0;have lr3:=HR3.out.blk.lt;have lp3:=hp3.lt;clear hW3 hr3 hk3 hbW hn3 hp3 hsz3 c7w hfx
 go_cut [] (fun wx => ∃ Vx,Hid (RSAt E G (entM r i (sortI (allS s))) Vx wx)∧Hid (KX E (fun g=>g=E.vi) W3 wx))
 case first =>
  cases i with
  | false =>
   go_wp2_with fail
   go_meet
   exact⟨V,by have:=HR3.out;rw[← HNX.out]at this;exact kH this,kH (KX.refl _ _ _)⟩
  | true =>
   have hbz:E.base≤W3.heap.size:=Nat.le_trans HBASE.out HK3.out.size;have hall:=all_any E.base s p ms W3.drew (ScAt.below ((Below.refl _ W3).drew) HS3.out) (by have:=HRB.out.all_;have:=HNX.out;omega);have HALL:=kH hall
   have hKS:∀ w':World,Since (fun g=>g=E.vi) W3 w'→w'.cell? ⟨E.rp,5,none⟩=some (.map (some E.vi))∧w'.cell? ⟨w.heap.size,0,none⟩=some (.pointer (some ⟨E.rp,0,none⟩)):=fun w' hw=>by
    have nm:∀ {g:Nat} {t:TypeId} {cs:Array Value},Blk W3 g t cs→g≠E.vi:=fun hb e=>by
     obtain⟨es,ck,ho⟩:=HR3.out.vi.isMap;subst e;have:W3.heap[_]? = some (Obj.cells _ _ (0,0)):=hb;rw[ho]at this
     cases this
    exact⟨(HR3.out.blk.since hw (nm HR3.out.blk)).cell 5,(HP3.out.since hw (nm HP3.out)).cell 0⟩
   have HKS:=kH hKS;have hs0:Since (fun g=>g=E.vi) W3 W3.drew:=(Since.refl _ W3).drew
   have hvn:(nx:Int) ∉ r.vis.map (·.1):=fun hm=>by
    obtain⟨y,hy,he⟩:=List.mem_map.1 hm;have:=HRB.out.vis y hy;have:=HNX.out;omega
   have HVN:=kH hvn;clear hall hKS hvn
   go_wp2_with fail
   go_region_held3 (fun w'=>w'.cell? ⟨E.rp,5,none⟩=some (.map (some E.vi))∧w'.cell? ⟨w.heap.size,0,none⟩=some (.pointer (some ⟨E.rp,0,none⟩))) (exact HKS.out _ (by assumption)) ((go_at_call 145;refine HALL.out.mono ?_;rintro e5 w5 ⟨v5,rfl,ho5,hb5⟩;have hs5:=hs0.below hb5;obtain⟨w6,hrun,hm6,hg6,hz6⟩:=run_mapUpdate_am (P:=Tryz.prog) (KK:=intK) (t:=72) (kt:=3) (et:=28) Tryz.underlying72 Tryz.underlying3 ((AMap.drew HR3.out.vi).beh hb5) (nx:Int) v5;change (Instr.mapUpdate 72 (.map (some E.vi)) (Value.int .i64 (nx:Int)) v5).run Tryz.prog w5=_ at hrun;have hs6:Since (fun g=>g=E.vi) w5 w6:=(Since.refl (fun g=>g=E.vi) w5).grown hg6 (fun k hk=>by cases hk;exact .inl rfl);have hs7:=hs5.trans hs6))
   have hlen:(sortI (allS s)).length=(allS s).length:=List.length_mergeSort _;have hb35:Below W3.heap.size W3 w5:=((Below.refl _ W3).drew).trans hb5;have hnote:=HR3.out.noteVis hbz hb35 (nx:Int) (sortI (allS s)) v5 (by rw[hlen];exact ho5) HVN.out (fun g=>g=E.vi) rfl hm6 hs6;have HNOTE:=kH hnote;clear hnote hs5 hs6 hs7 hz6 hm6 hb35 hb5 ho5 hs0 hrun hg6
   go_wp2_with fail
   go_meet
   exact⟨_,by have:=HNOTE.out.1;rw[← HNX.out]at this;exact kH this,kH HNOTE.out.2⟩
 case rest =>
  obtain⟨Vx,HRX,HKX⟩:=hcut
  have hnx:(entM r i (sortI (allS s))).next=nx+1:=by rw[← HNX.out];rfl
  have HKW:Hid (KX E (fun g=>g=E.vi) w wc):=kH ((HK3.out.mono (fun _ hf=>hf.elim)).trans HKX.out (fun g hg=>.inl hg));have HSX:Hid (ScAt wc E.base p s ms):=kH (ScAt.kx HKX.out HR3.out.notScope HS3.out (fun m hm e=>(hsep.apart m hm).2.2.2 e));have hnX:=HR3.out.node_at HKX.out HN3.out;have hpX:=HR3.out.ptr_at HKX.out HP3.out
  have hlk:=fun q=>lookupOk_lay (wc.drewN q) E.g G.globals (AMap.drewN HRX.out.gl q) x
  obtain⟨gi,hgi⟩:∃ q,(lookL G.globals x).getD 0=q:=⟨_,rfl⟩
  obtain⟨gb,hgb⟩:∃ q,(lookL G.globals x).isSome=q:=⟨_,rfl⟩
  rw[hgi,hgb]at hlk;have c0:=HRX.out.blk.cell 0;have lr:=HRX.out.blk.lt;have q0:=hpX.cell 0;have lp:=hpX.lt;have n0:=hnX.cell 0;have n1:=hnX.cell 1;have n2:=hnX.cell 2;have n3:=hnX.cell 3;have n4:=hnX.cell 4;have ln:=hnX.lt;have HNXB:=kH hnX;have HPXB:=kH hpX;have HGI:=kH hgi;have HGB:=kH hgb;clear hnX hpX hgi hgb c5 p0 lr3 lp3;have hsl:=slow_steps.none_ r i (sortI (allS s))
  have hdec:∀ q al,Calls Tryz.prog 147 #[.pointer (some ⟨E.rp,0,none⟩),.int .i64 0,.int .i64 (nx:Int),.agg #[.int .i64 3,.string x,.int .i64 a,.int .i64 e,.slice A nk c],.bool al] (wc.drewN q) fun e' w'=>e' = .returned (.bool (!al))∧∃ V',RSAt E G (declareM (entM r i (sortI (allS s))) 0 nx (.node 3 x a e kids) al) V' w'∧KX E (fun _=>False) (wc.drewN q) w':=fun q al=>by
   have h1:=HRB.out;have h2:=h1.room;have h3:=countM_one (.node 3 x a e kids);have:=declareB_any E G (entM r i (sortI (allS s))) Vx (wc.drewN q) (HRX.out.below (below_drewN (Below.refl _ _) q)) (by show r.ds.length≤_;have:=h1.ds;have:=HNX.out;omega) (by show r.probs.length≤_;have:=h1.probs;have:=HNX.out;omega) (Nat.le_trans HBASE.out (KX.low HKW.out HBASE.out).size) 0 nx (by show nx < r.uses.length;have:=HNX.out;omega) (.node 3 x a e kids) A c al (fun _=>False);rw[← HNK.out];exact this
  have HDEC:=kH hdec;clear hdec hsl
  go_wp2_with fail
  go_quiet (fail)
  go_wp2_with fail
  refine(HDEC.out _ _).mono ?_;rintro e8 w8 ⟨rfl,V8,h8,k8⟩;have kc8:KX E (fun _=>False) wc w8:=(KX.of_below (M:=fun _=>False) (below_drewN (Below.refl wc.heap.size wc) _)).trans k8 (fun g hg=>hg.elim);have HS8:Hid (ScAt w8 E.base p s ms):=kH (ScAt.kx kc8 HRX.out.notScope HSX.out (fun _ _ h=>h));have HN8:=kH (HRX.out.node_at kc8 HNXB.out);have HP8:=kH (HRX.out.ptr_at kc8 HPXB.out);have HK8:Hid (KX E (fun g=>g=E.vi) w w8):=kH (HKW.out.trans kc8 (fun g hg=>hg.elim));have HR8:=kH h8;have q8:=HP8.out.cell 0;have lq8:=HP8.out.lt;have o8:w8.cell? ⟨E.rp,8,none⟩=some (.int .i64 (declareM (entM r i (sortI (allS s))) 0 nx (.node 3 x a e kids) (gi !=(nx:Int))).owner):=HR8.out.blk.cell 8;have l8:=HR8.out.blk.lt;have m0:=HN8.out.cell 0;have m4:=HN8.out.cell 4;have lm8:=HN8.out.lt;have fo8:=HR8.out.blk.frozen 8
  obtain⟨ow,how⟩:∃ q,(declareM (entM r i (sortI (allS s))) 0 nx (.node 3 x a e kids) (gi !=(nx:Int))).owner=q:=⟨_,rfl⟩
  rw[how]at o8;obtain⟨hr9,hk9⟩:=HR8.out.setOwner (nx:Int) (fun _=>False)
  obtain⟨W9,hW9⟩:∃ W9,w8.setCell ⟨E.rp,8,none⟩ (.int .i64 (nx:Int))=W9:=⟨_,rfl⟩
  rw[hW9]at hr9 hk9
  have hsl9:Slow r { declareM (entM r i (sortI (allS s))) 0 nx (.node 3 x a e kids) (gi !=(nx:Int)) with owner:=(nx:Int) }:=by
   have:=slow_steps.trans (slow_steps.declare r i (sortI (allS s)) 0 (.node 3 x a e kids) (gi !=(nx:Int))) (slow_steps.owner _ (nx:Int));rw[HNX.out]at this;exact this
  have hne9:({ declareM (entM r i (sortI (allS s))) 0 nx (.node 3 x a e kids) (gi !=(nx:Int)) with owner:=(nx:Int) }:RS).next=nx+1:=by
   have:=head_next r i (sortI (allS s)) 0 (.node 3 x a e kids) (gi !=(nx:Int));rw[HNX.out]at this;exact this
  have hrb9:RB { declareM (entM r i (sortI (allS s))) 0 nx (.node 3 x a e kids) (gi !=(nx:Int)) with owner:=(nx:Int) } s (countsM ((kids.drop 0).take nk)):=by
   refine HRB.out.slow hsl9 (by have:=hsl9.next;omega) ?_;rw[hne9,← HNK.out];have:=HNX.out;simp[countM];omega
  have hcall:=kids_any E G B hB kids HIH.out i s p ms _ V8 W9 3 x a e A nk c 0 nk nk (w.heap.size+1) w.heap.size HNK.out (by omega) hr9 (ScAt.kx hk9 HR8.out.notScope HS8.out (fun _ _ h=>h)) hsep (KidsAt.below (((KX.low HK8.out HBASE.out).trans (KX.low hk9 (Nat.le_trans HBASE.out (KX.low HK8.out HBASE.out).size))).mono hB) (Nat.le_refl _) _ _ _ HK.out) HCAP.out (by omega) (Nat.le_trans (Nat.le_trans HBASE.out (KX.low HK8.out HBASE.out).size) hk9.size) (HR8.out.node_at hk9 HN8.out) (HR8.out.ptr_at hk9 HP8.out) HVK.out hrb9
  have hQ2:visitsM G i kids 0 nk s { declareM (entM r i (sortI (allS s))) 0 nx (.node 3 x a e kids) (gi !=(nx:Int)) with owner:=(nx:Int) } = Q:=by
   rw[← HQ.out,bne_dec,← HGI.out,HNX.out]
  rw[hQ2]at hcall;have m9:=(HR8.out.node_at hk9 HN8.out).cell 4;have lm9:=(HR8.out.node_at hk9 HN8.out).lt;have HC9:=kH hcall;have HK9:=kH hk9;clear hcall hk9 hr9 hQ2 hrb9 hne9 hsl9 how kc8 h8 k8
  go_wp2_with (rw[hW9])
  refine HC9.out.mono ?_;rintro e10 w10 ⟨rfl,V10,h10,s10,k10⟩;have HE:Hid (∃ V',RSAt E G Q.1 V' w10∧ScAt w10 E.base p Q.2 ms∧KX E (fun g=>g=E.vi∨ms.head? = some g) w w10):=kH ⟨V10,h10,s10,((HK8.out.mono (M':=fun g=>g=E.vi∨ms.head? = some g) (fun _ h=>.inl h)).trans HK9.out (fun g hg=>hg.elim)).trans k10 (fun g hg=>.inl hg)⟩;clear h10 s10 k10 HC9 m9
  go_wp2_with fail
  go_end0
  exact⟨rfl,HE.out⟩
end Go.Proofs.YtoepemlnlpamlaaGreat
namespace Go.Proofs.YtoepemlnlpamlaaGreat
set_option maxRecDepth 100000
set_option maxHeartbeats 4000000
open Go.RowKit
structure NB where
 kids:List Tree
 k:Int
 x:ByteArray
 a:Int
 z:Int
 A:Option Addr
 nk:Nat
 c:Nat
 bn:Nat
 br:Nat
structure VW (E:RC) (G:Glob) (B:Nat) (N:NB) (w0:World) (M:Nat→Prop) (r:RS) (V:RV) (s:Scope) (p:Option Addr) (ms:List Nat) (w:World):Prop where
 R:RSAt E G r V w
 S:ScAt w E.base p s ms
 N_:Blk w N.bn 24 #[.int .i64 N.k,.string N.x,.int .i64 N.a,.int .i64 N.z,.slice N.A N.nk N.c]
 P:Blk w N.br 68 #[.pointer (some ⟨E.rp,0,none⟩)]
 K:KX E M w0 w
 KD:KidsAt w B N.A 0 N.kids
 base:E.base≤w.heap.size
 low:B≤E.base
section
variable {E:RC} {G:Glob} {B:Nat} {N:NB} {w0 w w':World} {M M':Nat→Prop} {r r':RS} {V V':RV} {s s':Scope} {p p':Option Addr} {ms ms':List Nat}
theorem VW.step (h:VW E G B N w0 M r V s p ms w) (hk:KX E M' w w') (hr:RSAt E G r' V' w') (hs:ScAt w' E.base p' s' ms') (hM:∀ g,M' g→M g∨w0.heap.size≤g):VW E G B N w0 M r' V' s' p' ms' w' where
 R:=hr
 S:=hs
 N_:=h.R.node_at hk h.N_
 P:=h.R.ptr_at hk h.P
 K:=h.K.trans hk hM
 KD:=KidsAt.below ((KX.low hk h.base).mono h.low) (Nat.le_refl _) _ _ _ h.KD
 base:=Nat.le_trans h.base hk.size
 low:=h.low
theorem VW.stepS (h:VW E G B N w0 M r V s p ms w) (hk:KX E M' w w') (hr:RSAt E G r' V' w') (hms:∀ m ∈ ms,¬ M' m) (hM:∀ g,M' g→M g∨w0.heap.size≤g):VW E G B N w0 M r' V' s p ms w' :=
 h.step hk hr (ScAt.kx hk h.R.notScope h.S hms) hM
theorem VW.below (h:VW E G B N w0 M r V s p ms w) (hb:Below w.heap.size w w'):VW E G B N w0 M r V s p ms w' :=
 h.step (KX.of_below (M:=fun _=>False) hb) (h.R.below hb) (h.S.below hb) (fun _ hf=>hf.elim)
theorem VW.drewN (h:VW E G B N w0 M r V s p ms w) (q:Nat):VW E G B N w0 M r V s p ms (w.drewN q):=h.below (below_drewN (Below.refl _ _) q)
theorem VW.other (h:VW E G B N w0 M r V s p ms w) (hs:ScAt w E.base p' s' ms'):VW E G B N w0 M r V s' p' ms' w:=⟨h.R,hs,h.N_,h.P,h.K,h.KD,h.base,h.low⟩
theorem VW.cells (h:VW E G B N w0 M r V s p ms w):(w.cell? ⟨N.br,0,none⟩=some (.pointer (some ⟨E.rp,0,none⟩))∧N.br < w.heap.size)∧(w.cell? ⟨N.bn,0,none⟩=some (.int .i64 N.k)∧w.cell? ⟨N.bn,1,none⟩=some (.string N.x)∧w.cell? ⟨N.bn,2,none⟩=some (.int .i64 N.a)∧w.cell? ⟨N.bn,3,none⟩=some (.int .i64 N.z)∧w.cell? ⟨N.bn,4,none⟩=some (.slice N.A N.nk N.c)∧N.bn < w.heap.size) ∧
 (w.cell? ⟨E.rp,0,none⟩=some (.map (some E.g))∧w.cell? ⟨E.rp,1,none⟩=some (.map (some E.f))∧w.cell? ⟨E.rp,2,none⟩=some (.map (some E.k))∧w.cell? ⟨E.rp,8,none⟩=some (.int .i64 r.owner)∧E.rp < w.heap.size) :=
 ⟨⟨h.P.cell 0,h.P.lt⟩,⟨h.N_.cell 0,h.N_.cell 1,h.N_.cell 2,h.N_.cell 3,h.N_.cell 4,h.N_.lt⟩,⟨h.R.blk.cell 0,h.R.blk.cell 1,h.R.blk.cell 2,h.R.blk.cell 8,h.R.blk.lt⟩⟩
theorem VW.drew (h:VW E G B N w0 M r V s p ms w):VW E G B N w0 M r V s p ms w.drew:=h.below ((Below.refl _ _).drew)
theorem VW.kids (h:VW E G B N w0 M r V s p ms w) (hih:∀ k ∈ N.kids,VisitC E G B k) (i:Bool) (f n to_:Nat) (hto:to_=f+n) (hnk:N.kids.length=N.nk) (hfn:f+n≤N.nk) (hcap:N.nk≤N.c) (hv:VOks s.isEmpty N.kids=true) (hrb:RB r s (countsM ((N.kids.drop f).take n))) (hsep:Sep E ms)
 (hM:∀ g,(g=E.vi∨ms.head? = some g)→M g∨w0.heap.size≤g) :
 Calls Tryz.prog 146 #[.int .i64 (f:Int),.int .i64 (to_:Int),.pointer p,.bool i,.pointer (some ⟨N.bn,0,none⟩),.pointer (some ⟨N.br,0,none⟩)] w fun e w'=>e = .returned (.tuple #[])∧KX E (fun g=>g=E.vi∨ms.head? = some g) w w'∧∃ V',VW E G B N w0 M (visitsM G i N.kids f n s r).1 V' (visitsM G i N.kids f n s r).2 p ms w' :=
 (kids_any E G B h.low N.kids hih i s p ms r V w N.k N.x N.a N.z N.A N.nk N.c f n to_ N.bn N.br hnk hto h.R h.S hsep h.KD hcap hfn h.base h.N_ h.P hv hrb).mono fun _ _ ⟨h1,V',h2,h3,h4⟩=>⟨h1,h4,V',h.step h4 h2 h3 hM⟩
theorem VW.use_ (h:VW E G B N w0 M r V s p ms w) (t:Tree) (ht:t.kind=N.k∧t.text=N.x∧t.at_=N.a∧t.end_=N.z∧t.kids=N.kids) (hnk:N.kids.length=N.nk) (hP:r.probs.length≤1000000) (n:Nat) (hn:n < r.uses.length) (tq:Option Int) (y:Int) (hy:∀ k,tq=some k→k=y) :
 Calls Tryz.prog 149 #[.pointer (some ⟨E.rp,0,none⟩),.int .i64 (n:Int),.agg #[.int .i64 N.k,.string N.x,.int .i64 N.a,.int .i64 N.z,.slice N.A N.nk N.c],.int .i64 y,.bool tq.isSome] w fun e w'=>e = .returned (.tuple #[])∧∃ V',VW E G B N w0 M (useM r n t tq) V' s p ms w':=by
 have:=use_any E G r V w h.R hP h.base n hn t N.A N.c tq y hy (fun _=>False);unfold nodeV at this;rw[ht.1,ht.2.1,ht.2.2.1,ht.2.2.2.1,ht.2.2.2.2,hnk]at this
 exact this.mono fun _ _ ⟨h1,V',h2,h3⟩=>⟨h1,V',h.stepS h3 h2 (fun _ _ hf=>hf) (fun _ hf=>hf.elim)⟩
theorem VW.declare_ (h:VW E G B N w0 M r V s p ms w) (t:Tree) (ht:t.kind=N.k∧t.text=N.x∧t.at_=N.a∧t.end_=N.z∧t.kids=N.kids) (hnk:N.kids.length=N.nk) (hD:r.ds.length≤1000000) (hP:r.probs.length≤1000000) (kind:Int) (n:Nat) (hn:n < r.uses.length) (al:Bool) :
 Calls Tryz.prog 147 #[.pointer (some ⟨E.rp,0,none⟩),.int .i64 kind,.int .i64 (n:Int),.agg #[.int .i64 N.k,.string N.x,.int .i64 N.a,.int .i64 N.z,.slice N.A N.nk N.c],.bool al] w fun e w'=>e = .returned (.bool (!al))∧∃ V',VW E G B N w0 M (declareM r kind n t al) V' s p ms w':=by
 have:=declareB_any E G r V w h.R hD hP h.base kind n hn t N.A N.c al (fun _=>False);unfold nodeV at this;rw[ht.1,ht.2.1,ht.2.2.1,ht.2.2.2.1,ht.2.2.2.2,hnk]at this
 exact this.mono fun _ _ ⟨h1,V',h2,h3⟩=>⟨h1,V',h.stepS h3 h2 (fun _ _ hf=>hf) (fun _ hf=>hf.elim)⟩
theorem VW.variable_ (h:VW E G B N w0 M r V s p ms w) (t:Tree) (ht:t.kind=N.k∧t.text=N.x∧t.at_=N.a∧t.end_=N.z∧t.kids=N.kids) (hnk:N.kids.length=N.nk) (hD:r.ds.length≤1000000) (hP:r.probs.length≤1000000) (kind:Int) (n:Nat) (hn:n < r.uses.length)
 (l:Lay) (s2:Scope) (m:Nat) (ms2:List Nat) (hs2:ScAt w E.base p' (l :: s2) (m :: ms2)) (hsep:Sep E (m :: ms2)) (hM:M m∨w0.heap.size≤m) :
 Calls Tryz.prog 148 #[.pointer (some ⟨E.rp,0,none⟩),.int .i64 kind,.int .i64 (n:Int),.agg #[.int .i64 N.k,.string N.x,.int .i64 N.a,.int .i64 N.z,.slice N.A N.nk N.c],.pointer p'] w fun e w'=>e = .returned (.tuple #[])∧KX E (fun g=>g=m) w w'∧∃ V',VW E G B N w0 M (variableM G r kind n t (l :: s2)).1 V' (variableM G r kind n t (l :: s2)).2 p' (m :: ms2) w':=by
 have:=variableN_any E G r V w h.R hD hP h.base kind n hn t N.A N.c l s2 p' m ms2 hs2 hsep;unfold nodeV at this;rw[ht.1,ht.2.1,ht.2.2.1,ht.2.2.2.1,ht.2.2.2.2,hnk]at this
 exact this.mono fun _ _ ⟨h1,V',h2,h3,h4⟩=>⟨h1,h4,V',h.step h4 h2 h3 (fun g hg=>by rw[hg];exact hM)⟩
theorem ScAt.tail {b m:Nat} (h:ScAt w E.base (some ⟨b,0,none⟩) s (m :: ms)) (hb:Blk w b 95 #[.pointer p,.map (some m)]):ScAt w E.base p s.tail ms:=by
 cases s with
 | nil=>exact absurd h.2 (by simp)
 | cons l s =>
  obtain⟨b',m',p',ms',h1,h2,_,_,h5,_,h7⟩:=h;simp only[List.cons.injEq]at h2;obtain⟨rfl,rfl⟩:=h2;simp only[Option.some.injEq,Addr.mk.injEq,and_true]at h1;subst h1;have e1:w.heap[b]? = some (Obj.cells _ _ (0,0)):=hb;have e2:w.heap[b]? = some (Obj.cells _ _ (0,0)):=h5;rw[e1]at e2;simp at e2;rw[e2];exact h7
theorem ScAt.head {b m:Nat} {l:Lay} (h:ScAt w E.base (some ⟨b,0,none⟩) (l :: s) (m :: ms)):AMap strK w m (layV l)∧E.base≤b∧E.base≤m∧∃ p,Blk w b 95 #[.pointer p,.map (some m)]∧ScAt w E.base p s ms:=by
 obtain⟨b',m',p',ms',h1,h2,h3,h4,h5,h6,h7⟩:=h;simp only[List.cons.injEq]at h2;obtain⟨rfl,rfl⟩:=h2;simp only[Option.some.injEq,Addr.mk.injEq,and_true]at h1;subst h1;exact⟨h6,h3,h4,p',h5,h7⟩
theorem VW.scope_at (h:VW E G B N w0 M r V s p ms w) (hk:KX E M' w w') {g:Nat} {cs:Array Value} (hb:Blk w g 95 cs):Blk w' g 95 cs :=
 hk.blk hb (by decide) (by decide) (by decide) (fun e=>h.R.notScope g cs e hb)
theorem Sep.cons {m:Nat} (h:Sep E ms) (hm:m ∉ ms) (h2:m≠E.g∧m≠E.f∧m≠E.k∧m≠E.vi):Sep E (m :: ms) :=
 ⟨List.nodup_cons.2 ⟨hm,h.nodup⟩,fun x hx=>by rcases List.mem_cons.1 hx with rfl | hx;exact h2;exact h.apart x hx⟩
theorem ScAt.lt:∀ {s:Scope} {p:Option Addr} {ms:List Nat},ScAt w E.base p s ms→∀ m ∈ ms,m < w.heap.size
 | [],_,_,h,m,hm=>by rw[h.2]at hm;cases hm
 | _ :: _,_,_,⟨_,m',_,ms',_,h2,_,_,_,h6,h7⟩,m,hm=>by
  rw[h2]at hm
  rcases List.mem_cons.1 hm with rfl | hm
  ·exact h6.lt
  ·exact ScAt.lt h7 m hm
theorem VW.inner_ (h:VW E G B N w0 M r V s p ms w) {p1:Option Addr} {s1:Scope} {ms1:List Nat} (hs1:ScAt w E.base p1 s1 ms1) (hsep1:Sep E ms1) :
 Calls Tryz.prog 48 #[.pointer p1] w fun e w' => ∃ b m,e = .returned (.pointer (some ⟨b,0,none⟩))∧w.heap.size≤m∧Blk w' b 95 #[.pointer p1,.map (some m)]∧AMap strK w' m []∧ScAt w' E.base (some ⟨b,0,none⟩) ([] :: s1) (m :: ms1)∧Sep E (m :: ms1)∧Below w.heap.size w w'∧VW E G B N w0 M r V s p ms w':=by
 refine(inner_any p1 w).mono ?_;rintro e w' ⟨b,m,h1,h2,h3,h4,h5,h6⟩;have hv:=h.below h6;refine⟨b,m,h1,h3,h4,h5,⟨b,m,p1,ms1,rfl,rfl,Nat.le_trans h.base h2,Nat.le_trans h.base h3,h4,h5,hs1.below h6⟩,hsep1.cons (fun hm=>?_) ?_,h6,hv⟩
 ·have:=ScAt.lt hs1 m hm
  omega
 ·have g1:=h.R.gl.lt
  have g2:=h.R.fl.lt;have g3:=h.R.kn.lt;have g4:=h.R.vi.lt;exact⟨by omega,by omega,by omega,by omega⟩
theorem VW.end_ (h:VW E G B N w0 (fun g=>g=E.vi∨ms.head? = some g) r V s p ms w):∃ V',RSAt E G r V' w∧ScAt w E.base p s ms∧KX E (fun g=>g=E.vi∨ms.head? = some g) w0 w:=⟨V,h.R,h.S,h.K⟩
end
theorem lookup_lay (w:World) (r:Nat) (l:Lay) (h:AMap strK w r (layV l)) (x:ByteArray) :
 (Instr.lookup 70 (.map (some r)) (.string x) false).run Tryz.prog w = .ok (.int .i64 ((lookL l x).getD 0)) w:=by
 have:=run_lookup_am (P:=Tryz.prog) (KK:=strK) (t:=70) (kt:=9) (et:=3) Tryz.underlying70 Tryz.underlying9 zero_int h x;unfold layV at this;rw[lookM_map]at this
 cases hl:lookL l x with
 | none=>rw[hl]at this;exact this
 | some k=>rw[hl]at this;exact this
theorem lookup_int (w:World) (r:Nat) (l:List (Int × Int)) (h:AMap intK w r (intV l)) (x:Int) :
 (Instr.lookup 71 (.map (some r)) (.int .i64 x) false).run Tryz.prog w = .ok (.int .i64 ((lookL l x).getD 0)) w:=by
 have:=run_lookup_am (P:=Tryz.prog) (KK:=intK) (t:=71) (kt:=3) (et:=3) Tryz.underlying71 Tryz.underlying3 zero_int h x;unfold intV at this;rw[lookM_map]at this
 cases hl:lookL l x with
 | none=>rw[hl]at this;exact this
 | some k=>rw[hl]at this;exact this
theorem bne_dec1 (a b:Int):(a != b)=decide (a≠b):=by by_cases h:a=b <;> simp[h]
theorem RB.kids {r q:RS} {s s':Scope} {t:Tree} {f n:Nat} (h:RB r s (countM t)) (k:Slow r q) (ha:(allS s').length+r.next≤(allS s).length+q.next) (hn:q.next≤r.next+1+countsM (t.kids.take f)):RB q s' (countsM ((t.kids.drop f).take n)):=by
 refine h.slow k ha ?_;have h1:=countM_one t;have h2:=counts_parts t.kids f n;have h3:=countM_kids t;omega
end Go.Proofs.YtoepemlnlpamlaaGreat
namespace Go.Proofs.YtoepemlnlpamlaaGreat
set_option maxRecDepth 100000
set_option maxHeartbeats 4000000
open Go.RowKit
theorem visit_other (E:RC) (G:Glob) (B:Nat) (hB:B≤E.base) (k:Int) (x:ByteArray) (a e:Int) (kids:List Tree) (hih:∀ k ∈ kids,VisitC E G B k) (hk3:¬ k=3) (hk4:¬ k=4) (hk5:¬ k=5) (hk7:¬ k=7) (hk8:¬ k=8) (hk11:¬ k=11) (hk12:¬ k=12) (hk16:¬ k=16) (hk20:¬ k=20) (hk22:¬ k=22) (hk27:¬ k=27) (hk19:¬ k=19) (hk9:¬ k=9):VisitC E G B (.node k x a e kids):=by
 intro i s p ms r V w A c h hs hsep hk hcap hbase hv hrb
 obtain⟨nk,hnk⟩:∃ q,kids.length=q:=⟨_,rfl⟩
 have hvk:VOks s.isEmpty kids=true:=by
  rw[VOk,if_neg hk5,if_neg hk11,if_neg (by omega)]at hv;exact hv
 have hq:visitM G i (Tree.node k x a e kids) s r=visitsM G i kids 0 kids.length s (useN G s r (entM r i (sortI (allS s))) (Tree.node k x a e kids)):=by
  rw[visitM_eq,if_neg hk3,if_neg hk4,if_neg hk5,if_neg (by omega),if_neg hk11,if_neg hk12,if_neg hk16]
 rw[hq]
 obtain⟨Q,hQ⟩:∃ Q,visitsM G i kids 0 kids.length s (useN G s r (entM r i (sortI (allS s))) (Tree.node k x a e kids))=Q:=⟨_,rfl⟩
 rw[hQ];have HQ:=kH hQ;clear hq hQ;unfold nodeV
 have hfive:(Tree.node k x a e kids).kind=k∧(Tree.node k x a e kids).text=x∧(Tree.node k x a e kids).at_=a∧(Tree.node k x a e kids).end_=e∧(Tree.node k x a e kids).kids=kids:=⟨rfl,rfl,rfl,rfl,rfl⟩
 rw[hfive.1,hfive.2.1,hfive.2.2.1,hfive.2.2.2.1,hfive.2.2.2.2,hnk];rw[hfive.2.2.2.2]at hk hcap;rw[hnk]at hcap
 obtain⟨nx,hnx⟩:∃ q,r.next=q:=⟨_,rfl⟩
 have hnb:nx≤1000000:=by have:=hrb.room;have:=hrb.most;omega
 have hnkb:nk≤1000000:=by have h1:=hrb.room;have h2:=hrb.most;have h3:=counts_len kids;rw[countM]at h1;omega
 have c7w:w.cell? ⟨E.rp,7,none⟩=some (.int .i64 (nx:Int)):=by rw[← hnx];exact h.blk.cell 7
 have hrw:=h.blk.lt;have hwn:IntKind.i64.wrap ((nx:Int)+1)=(nx:Int)+1:=IntWalk.i64_in _ (by omega);have hfx:=h.blk.frozen 7;have H:=kH h;have HS:=kH hs;have HK:=kH hk;have HRB:=kH hrb;have HNX:=kH hnx;have HNK:=kH hnk;have HVK:=kH hvk;have HIH:=kH hih;have HCAP:=kH hcap;have HBASE:=kH hbase;clear h hs hk hrb hnx hnk hvk hih hv hfive hcap hbase
 go_enter Tryz.func79,Tryz.ntmps79
 go_upto_if 32 with fail
 generalize hW3:(((w.setCell ⟨E.rp,7,none⟩ (.int .i64 ((nx:Int)+1))).alloc (.cells #[.pointer (some ⟨E.rp,0,none⟩)] 68)).alloc (.cells #[.int .i64 k,.string x,.int .i64 a,.int .i64 e,.slice A nk c] 24))=W3
 obtain⟨hr3,hk3⟩:=H.out.setNext (nx+1) (fun _=>False)
 have hbW:Below w.heap.size (w.setCell ⟨E.rp,7,none⟩ (.int .i64 ((nx:Int)+1))) W3:=by
  rw[← hW3];have h1:=below_alloc (w.setCell ⟨E.rp,7,none⟩ (.int .i64 ((nx:Int)+1))) (.cells #[.pointer (some ⟨E.rp,0,none⟩)] 68);have h2:=below_alloc ((w.setCell ⟨E.rp,7,none⟩ (.int .i64 ((nx:Int)+1))).alloc (.cells #[.pointer (some ⟨E.rp,0,none⟩)] 68)) (.cells #[.int .i64 k,.string x,.int .i64 a,.int .i64 e,.slice A nk c] 24);have h3:=h1.trans (h2.mono (by simp))
  simpa using h3
 have hsz3:W3.heap.size=w.heap.size+2:=by rw[← hW3];simp
 have hn3:Blk W3 (w.heap.size+1) 24 #[.int .i64 k,.string x,.int .i64 a,.int .i64 e,.slice A nk c]:=by
  have:=Blk.new ((w.setCell ⟨E.rp,7,none⟩ (.int .i64 ((nx:Int)+1))).alloc (.cells #[.pointer (some ⟨E.rp,0,none⟩)] 68)) 24 #[.int .i64 k,.string x,.int .i64 a,.int .i64 e,.slice A nk c];rw[hW3]at this
  simpa using this
 have hp3:Blk W3 w.heap.size 68 #[.pointer (some ⟨E.rp,0,none⟩)]:=by
  have:=(Blk.new (w.setCell ⟨E.rp,7,none⟩ (.int .i64 ((nx:Int)+1))) 68 #[.pointer (some ⟨E.rp,0,none⟩)]).alloc (.cells #[.int .i64 k,.string x,.int .i64 a,.int .i64 e,.slice A nk c] 24);rw[hW3]at this
  simpa using this
 have HR3:Hid (RSAt E G { r with next:=nx+1 } V W3):=kH (hr3.below (by simpa using hbW));have HK3:Hid (KX E (fun _=>False) w W3):=kH (hk3.trans (KX.of_below (M:=fun _=>False) (by simpa using hbW)) (fun g hg=>.inl hg));have HS3:Hid (ScAt W3 E.base p s ms):=kH (ScAt.kx HK3.out H.out.notScope HS.out (fun _ _ h=>h));have HN3:=kH hn3;have HP3:=kH hp3;have HSZ3:=kH hsz3;have c5:W3.cell? ⟨E.rp,5,none⟩=some (.map (some E.vi)):=HR3.out.blk.cell 5;have p0:=hp3.cell 0;have lr3:=HR3.out.blk.lt;have lp3:=hp3.lt;clear hW3 hr3 hk3 hbW hn3 hp3 hsz3 c7w hfx
 go_cut [] (fun wx => ∃ Vx,Hid (RSAt E G (entM r i (sortI (allS s))) Vx wx)∧Hid (KX E (fun g=>g=E.vi) W3 wx))
 case first =>
  cases i with
  | false =>
   go_wp2_with fail
   go_meet
   exact⟨V,by have:=HR3.out;rw[← HNX.out]at this;exact kH this,kH (KX.refl _ _ _)⟩
  | true =>
   have hbz:E.base≤W3.heap.size:=Nat.le_trans HBASE.out HK3.out.size;have hall:=all_any E.base s p ms W3.drew (ScAt.below ((Below.refl _ W3).drew) HS3.out) (by have:=HRB.out.all_;have:=HNX.out;omega);have HALL:=kH hall
   have hKS:∀ w':World,Since (fun g=>g=E.vi) W3 w'→w'.cell? ⟨E.rp,5,none⟩=some (.map (some E.vi))∧w'.cell? ⟨w.heap.size,0,none⟩=some (.pointer (some ⟨E.rp,0,none⟩)):=fun w' hw=>by
    have nm:∀ {g:Nat} {t:TypeId} {cs:Array Value},Blk W3 g t cs→g≠E.vi:=fun hb e=>by
     obtain⟨es,ck,ho⟩:=HR3.out.vi.isMap;subst e;have:W3.heap[_]? = some (Obj.cells _ _ (0,0)):=hb;rw[ho]at this
     cases this
    exact⟨(HR3.out.blk.since hw (nm HR3.out.blk)).cell 5,(HP3.out.since hw (nm HP3.out)).cell 0⟩
   have HKS:=kH hKS;have hs0:Since (fun g=>g=E.vi) W3 W3.drew:=(Since.refl _ W3).drew
   have hvn:(nx:Int) ∉ r.vis.map (·.1):=fun hm=>by
    obtain⟨y,hy,he⟩:=List.mem_map.1 hm;have:=HRB.out.vis y hy;have:=HNX.out;omega
   have HVN:=kH hvn;clear hall hKS hvn
   go_wp2_with fail
   go_region_held3 (fun w'=>w'.cell? ⟨E.rp,5,none⟩=some (.map (some E.vi))∧w'.cell? ⟨w.heap.size,0,none⟩=some (.pointer (some ⟨E.rp,0,none⟩))) (exact HKS.out _ (by assumption)) ((go_at_call 145;refine HALL.out.mono ?_;rintro e5 w5 ⟨v5,rfl,ho5,hb5⟩;have hs5:=hs0.below hb5;obtain⟨w6,hrun,hm6,hg6,hz6⟩:=run_mapUpdate_am (P:=Tryz.prog) (KK:=intK) (t:=72) (kt:=3) (et:=28) Tryz.underlying72 Tryz.underlying3 ((AMap.drew HR3.out.vi).beh hb5) (nx:Int) v5;change (Instr.mapUpdate 72 (.map (some E.vi)) (Value.int .i64 (nx:Int)) v5).run Tryz.prog w5=_ at hrun;have hs6:Since (fun g=>g=E.vi) w5 w6:=(Since.refl (fun g=>g=E.vi) w5).grown hg6 (fun k hk=>by cases hk;exact .inl rfl);have hs7:=hs5.trans hs6))
   have hlen:(sortI (allS s)).length=(allS s).length:=List.length_mergeSort _;have hb35:Below W3.heap.size W3 w5:=((Below.refl _ W3).drew).trans hb5;have hnote:=HR3.out.noteVis hbz hb35 (nx:Int) (sortI (allS s)) v5 (by rw[hlen];exact ho5) HVN.out (fun g=>g=E.vi) rfl hm6 hs6;have HNOTE:=kH hnote;clear hnote hs5 hs6 hs7 hz6 hm6 hb35 hb5 ho5 hs0 hrun hg6
   go_wp2_with fail
   go_meet
   exact⟨_,by have:=HNOTE.out.1;rw[← HNX.out]at this;exact kH this,kH HNOTE.out.2⟩
 case rest =>
  obtain⟨Vx,HRX,HKX⟩:=hcut;have HKW:Hid (KX E (fun g=>g=E.vi) w wc):=kH ((HK3.out.mono (fun _ hf=>hf.elim)).trans HKX.out (fun g hg=>.inl hg));have HV:Hid (VW E G B ⟨kids,k,x,a,e,A,nk,c,w.heap.size+1,w.heap.size⟩ w (fun g=>g=E.vi∨ms.head? = some g) (entM r i (sortI (allS s))) Vx s p ms wc):=kH ⟨HRX.out,ScAt.kx HKX.out HR3.out.notScope HS3.out (fun m hm e=>(hsep.apart m hm).2.2.2 e),HR3.out.node_at HKX.out HN3.out,HR3.out.ptr_at HKX.out HP3.out,HKW.out.mono (fun _ h=>.inl h),KidsAt.below ((KX.low HKW.out HBASE.out).mono hB) (Nat.le_refl _) _ _ _ HK.out,Nat.le_trans HBASE.out (KX.low HKW.out HBASE.out).size,hB⟩
  have hlk:=fun q=>lookupOk_lay (wc.drewN q) E.g G.globals (AMap.drewN HRX.out.gl q) x
  obtain⟨gi,hgi⟩:∃ q,(lookL G.globals x).getD 0=q:=⟨_,rfl⟩
  obtain⟨gb,hgb⟩:∃ q,(lookL G.globals x).isSome=q:=⟨_,rfl⟩
  rw[hgi,hgb]at hlk;obtain⟨⟨q0,lp⟩,⟨n0,n1,n2,n3,n4,ln⟩,⟨c0,c1,c2,c8,lr⟩⟩:=HV.out.cells;have HGI:=kH hgi;have HGB:=kH hgb
  have hD:(entM r i (sortI (allS s))).ds.length≤1000000:=by show r.ds.length≤_;have:=HRB.out.ds;have:=HNX.out;omega
  have hP:(entM r i (sortI (allS s))).probs.length≤1000000:=by show r.probs.length≤_;have:=HRB.out.probs;have:=HNX.out;omega
  have hU:nx < (entM r i (sortI (allS s))).uses.length:=by show nx < r.uses.length;have h1:=HRB.out.room;have h2:=HNX.out;rw[countM]at h1;omega
  have HD:=kH hD;have HPR:=kH hP;have HU:=kH hU
  have hqn:∀ u:RS,u.next=r.next+1→u.next≤r.next+1+countsM ((Tree.node k x a e kids).kids.take 0):=fun u hu=>by rw[hu];exact Nat.le_add_right _ _
  have HQN:=kH hqn;clear hgi hgb c5 p0 lr3 lp3 hqn hD hP hU c8
  have hu:useN G s r (entM r i (sortI (allS s))) (Tree.node k x a e kids)=(entM r i (sortI (allS s))):=by
   unfold useN;show (if k=20 then _ else if k=22 then _ else if k=27 then _ else if k=19 then _ else if k=9∧isScalar x=false then _ else _)=_;rw[if_neg hk20,if_neg hk22,if_neg hk27,if_neg hk19,if_neg (fun (h:k=9∧isScalar x=false)=>hk9 h.1)]
  have hcall:=fun q=>(HV.out.drewN q).kids HIH.out i 0 nk nk (by omega) HNK.out (by show 0+nk≤nk;omega) HCAP.out HVK.out (HRB.out.kids (t:=(Tree.node k x a e kids)) (slow_steps.none_ r i _) (Nat.add_le_add_left (Nat.le_succ _) _) (HQN.out _ rfl)) hsep (fun g hg=>.inl hg)
  have hQ2:visitsM G i kids 0 nk s (entM r i (sortI (allS s)))=Q:=by rw[← HQ.out,hu,HNK.out]
  have HQ2:=kH hQ2;have HCA:=kH hcall;clear hcall hQ2 hu
  go_wp2_with fail
  go_quiet (fail)
  go_wp2_with fail
  refine(HCA.out _).mono ?_;rintro e10 w10 ⟨rfl,-,V10,h10⟩;have HE:Hid (∃ V',RSAt E G Q.1 V' w10∧ScAt w10 E.base p Q.2 ms∧KX E (fun g=>g=E.vi∨ms.head? = some g) w w10):=kH (by rw[← HQ2.out];exact h10.end_);clear h10 HCA
  go_wp2_with fail
  go_end0
  exact⟨rfl,HE.out⟩
end Go.Proofs.YtoepemlnlpamlaaGreat
