/- The law NamesFreeAt holds: for every text and every number the law returns true, and its arguments read as before. No condition. Part 19: Tr4 Visit. -/
import Derived.RangeFuncNested
import Derived.RangeFuncBound
import Derived.RangeFuncCalls
import Derived.RangeFuncLeaves
import Derived.Shelf.Abstract
import Derived.Shelf.RegionOpen
import Derived.WalkKit
import Derived.OwnWalkIn
import Derived.TacticsInMore
import Derived.LoopNIn
import Derived.LoopIn
import Derived.Test.YtoepemlnlpamlaaGreatFreeAt17
namespace Go.Proofs.YtoepemlnlpamlaaGreat
set_option maxRecDepth 100000
set_option maxHeartbeats 4000000
open Go.RowKit
mutual
def nodesM:Tree→List Tree
 | .node k t a e kids=>.node k t a e kids :: nodesL kids
def nodesL:List Tree→List Tree
 | []=>[]
 | t :: ts=>nodesM t ++ nodesL ts
end
mutual
theorem nodesM_len:∀ (t:Tree),(nodesM t).length=countM t
 | .node _ _ _ _ kids=>by
  simp only[nodesM,countM,List.length_cons,nodesL_len kids];omega
theorem nodesL_len:∀ (ts:List Tree),(nodesL ts).length=countsM ts
 | []=>rfl
 | t :: ts=>by simp only[nodesL,countsM,List.length_append,nodesM_len t,nodesL_len ts]
end
theorem nodesM_eq (t:Tree):nodesM t=t :: nodesL t.kids:=by
 cases t
 rfl
theorem nodesL_take:∀ (ts:List Tree) (i:Nat) (t:Tree),ts[i]? = some t→nodesL (ts.take (i+1))=nodesL (ts.take i) ++ nodesM t
 | [],i,t,h=>by simp at h
 | u :: ts,0,t,h=>by
  simp at h;subst h;simp[nodesL]
 | u :: ts,i+1,t,h=>by
  have:=nodesL_take ts i t (by simpa using h);simp only[List.take_succ_cons,nodesL,this,List.append_assoc]
def ValsAt (w:World) (B:Nat):List Tree→List (List Value)→Prop
 | [],vals=>vals = []
 | t :: ts,vals => ∃ v vs,vals=v :: vs∧TreeAt w B t v∧ValsAt w B ts vs
theorem ValsAt.append {w:World} {B:Nat}:∀ {ts us:List Tree} {vs ws:List (List Value)},ValsAt w B ts vs→ValsAt w B us ws→ValsAt w B (ts ++ us) (vs ++ ws)
 | [],us,vs,ws,h,h2=>by
  have:vs = []:=h;subst this;exact h2
 | t :: ts,us,_,ws,h,h2=>by
  obtain⟨v,vs,rfl,h3,h4⟩:=h;exact⟨v,vs ++ ws,rfl,h3,ValsAt.append h4 h2⟩
theorem ValsAt.below {w w':World} {B B':Nat} (hb:Below B' w w') (hB:B≤B'):∀ {ts:List Tree} {vs:List (List Value)},ValsAt w B ts vs→ValsAt w' B ts vs
 | [],_,h=>h
 | _ :: _,_,h=>by
  obtain⟨v,vs,rfl,h3,h4⟩:=h;exact⟨v,vs,rfl,TreeAt.below hb hB _ _ h3,ValsAt.below hb hB h4⟩
theorem ValsAt.lens {w:World} {B:Nat}:∀ {ts:List Tree} {vs:List (List Value)},ValsAt w B ts vs→(List.flatten vs).length=ts.length * 5∧∀ u ∈ List.flatten vs,u.oneCell'=true
 | [],vs,h=>by
  have:vs = []:=h;subst this;exact⟨rfl,by simp⟩
 | t :: ts,_,h=>by
  obtain⟨v,vs,rfl,h3,h4⟩:=h;have ih:=ValsAt.lens h4;obtain⟨A,c,rfl,-⟩:=h3.five;refine⟨?_,fun u hu=>?_⟩
  ·simp only[List.flatten_cons,List.length_append,ih.1,List.length_cons,List.length_nil]
   omega
  ·simp only[List.flatten_cons,List.mem_append]at hu
   rcases hu with hu | hu
   ·simp at hu
    rcases hu with rfl | rfl | rfl | rfl | rfl <;> rfl
   ·exact ih.2 u hu
def NodesRes (w:World) (B:Nat) (ts:List Tree) (e:Ending) (w':World):Prop :=
 ∃ v n vals,e = .returned v∧n=ts.length∧OwnS w' w.heap.size 24 5 v n (List.flatten vals)∧ValsAt w' B ts vals∧Below w.heap.size w w'
theorem nodes3_any:∀ (m:Nat) (t:Tree) (A:Option Addr) (c:Nat) (w:World) (B:Nat),B≤w.heap.size→countM t≤m→m≤1000000000→t.kids.length≤c→KidsAt w B A 0 t.kids →
 Calls Tryz.prog 36 #[nodeV t A c] w (NodesRes w B (nodesM t)):=by
 obtain⟨i0,hi0,hz0,hz1,hz2⟩:=info_parts node_info;intro m
 induction m with
 | zero =>
  intro t A c w B _ h;have:=countM_pos t;omega
 | succ m ih =>
  intro t A c w B hBw hm hbig hcap hk;have hce:=countM_eq t;have hnd:=nodesM_eq t
  obtain⟨kids,hkids⟩:∃ x,t.kids=x:=⟨_,rfl⟩
  obtain⟨n,hn⟩:∃ x,kids.length=x:=⟨_,rfl⟩
  have hTn:∀ w',KidsAt w' B A 0 t.kids→TreeAt w' B t [.int .i64 t.kind,.string t.text,.int .i64 t.at_,.int .i64 t.end_,.slice A t.kids.length c]:=fun w' h=>by cases t;exact⟨A,c,rfl,hcap,h⟩
  unfold nodeV;rw[hkids]at hk hce hnd hTn ⊢;rw[hn]at hTn ⊢
  obtain⟨k,hk0⟩:∃ x,t.kind=x:=⟨_,rfl⟩
  obtain⟨x,hx0⟩:∃ x,t.text=x:=⟨_,rfl⟩
  obtain⟨a,ha0⟩:∃ x,t.at_=x:=⟨_,rfl⟩
  obtain⟨z,hzz⟩:∃ x,t.end_=x:=⟨_,rfl⟩
  rw[hk0,hx0,ha0,hzz]at hTn ⊢;have hcl:=counts_len kids;have HTN:=kH hTn;have HK:=kH hk;have HN:=kH hn;have HND:=kH hnd;have HIH:=kH ih;have HM:Hid (countsM kids≤m∧m≤1000000000):=kH ⟨by omega,by omega⟩
  have hnb:n≤1000000000:=by omega
  clear hk hce ih hm hbig hcap hk0 hx0 ha0 hzz hkids hn hcl hTn hnd
  go_enter Tryz.func36,Tryz.ntmps36
  go_wp2_with fail
  generalize hW1:w.alloc (.cells #[.int .i64 k,.string x,.int .i64 a,.int .i64 z,.slice A n c] 24)=W1
  have hb1:Below w.heap.size w W1:=by rw[← hW1];exact below_alloc _ _
  have hR1:Blk W1 w.heap.size 24 #[.int .i64 k,.string x,.int .i64 a,.int .i64 z,.slice A n c]:=by rw[← hW1];exact Blk.new w _ _
  have hs1:W1.heap.size=w.heap.size+1:=by rw[← hW1];simp
  rw[← hs1]
  generalize hW2:W1.alloc (.cells #[.int .i64 k,.string x,.int .i64 a,.int .i64 z,.slice A n c] 24)=W2
  have hb2:Below W1.heap.size W1 W2:=by rw[← hW2];exact below_alloc _ _
  have hO2:OwnS W2 W1.heap.size 24 5 (.slice (some ⟨W1.heap.size,0,none⟩) 1 1) 1 (List.flatten [[.int .i64 k,.string x,.int .i64 a,.int .i64 z,.slice A n c]]):=by
   have:=OwnS.block (base:=W1.heap.size) (e:=24) (size:=5) (n:=1) (Nat.le_refl _) (Blk.new W1 24 #[.int .i64 k,.string x,.int .i64 a,.int .i64 z,.slice A n c]) (by simp[maxLen]) rfl;rw[hW2]at this;exact this
  have hR2:=hR1.below hb2 hR1.lt;have hb02:=hb1.trans (hb2.mono hb1.size);have hk2:=KidsAt.below hb02 hBw _ _ _ HK.out
  have hv2:ValsAt W2 B [t] [[.int .i64 k,.string x,.int .i64 a,.int .i64 z,.slice A n c]]:=⟨_,_,rfl,HTN.out W2 hk2,rfl⟩
  have HR2:=kH hR2;have HO2:=kH hO2;have HB2:=kH hb02;have HV2:=kH hv2;have HK2:=kH hk2;have hl2:=hR2.lt;have HS1:Hid (W1.heap.size=w.heap.size+1∧W1.heap.size < W2.heap.size):=kH ⟨hs1,by rw[← hW2];simp⟩;clear hW1 hW2 hb1 hb2 hR1 hR2 hO2 hb02 hk2 hv2 hs1
  go_loopg [3,4] n (fun gk s3 s4 wr => ∃ (i:Nat) (A3:Option Addr) (n3 c3:Nat) (vals:List (List Value)),i+gk=n∧s3 = .slice A3 n3 c3∧s4 = .int .i64 (i:Int)∧n3=1+countsM (kids.take i)∧OwnS wr W1.heap.size 24 5 (.slice A3 n3 c3) n3 (List.flatten vals)∧ValsAt wr B (t :: nodesL (kids.take i)) vals∧Below W1.heap.size W2 wr)
  case atStart=>exact⟨0,_,1,1,_,by omega,rfl,rfl,by simp[countsM],HO2.out,by simpa [nodesL] using HV2.out,Below.refl _ _⟩
  case round =>
   obtain⟨i,A3,n3,c3,vals,hi,rfl,rfl,hn3,hO,hV,hB⟩:=hrel;have hS1:=HS1.out;have hRr:=HR2.out.below hB (by omega);have hc4:wr.cell? ⟨w.heap.size,4,none⟩=some (.slice A n c):=hRr.cell 4;have hlr:=hRr.lt;have HB:=kH hB;have HI:=kH hi;have HO:=kH hO;have HV:=kH hV;have HN3:=kH hn3
   have hin:i≤n:=by omega
   have hcl:=countsM_le kids i
   have hcb:n3≤1000000001:=by have:=HM.out;omega
   clear hB hRr hi hcl hO hV hn3 hS1
   by_cases hlt:i < n
   ·have hlt':(i:Int) < (n:Int):=by omega
    obtain⟨u,hu⟩:∃ u,kids[i]? = some u:=⟨_,List.getElem?_eq_getElem (by rw[HN.out];exact hlt)⟩
    obtain⟨kv,⟨b,off,hA,hbl,hcs⟩,hT⟩:=HK2.out.get i u hu;obtain⟨A',c',hvals,hK'⟩:=hT.five;subst hA;subst hvals;have hcapu:=hT.cap;have hS1:=HS1.out
    have hbb:b < wr.heap.size:=by omega
    have hbW:b < W1.heap.size:=by omega
    have t0:wr.cell? ⟨b,off+i * 5,none⟩=some (.int .i64 u.kind):=(HB.out.cell (p:=⟨b,_,none⟩) hbW).trans (by simpa using hcs 0 _ rfl);have t1:wr.cell? ⟨b,off+i * 5+1,none⟩=some (.string u.text):=(HB.out.cell (p:=⟨b,_,none⟩) hbW).trans (by simpa using hcs 1 _ rfl);have t2:wr.cell? ⟨b,off+i * 5+2,none⟩=some (.int .i64 u.at_):=(HB.out.cell (p:=⟨b,_,none⟩) hbW).trans (by simpa using hcs 2 _ rfl);have t3:wr.cell? ⟨b,off+i * 5+3,none⟩=some (.int .i64 u.end_):=(HB.out.cell (p:=⟨b,_,none⟩) hbW).trans (by simpa using hcs 3 _ rfl);have t4:wr.cell? ⟨b,off+i * 5+4,none⟩=some (.slice A' u.kids.length c'):=(HB.out.cell (p:=⟨b,_,none⟩) hbW).trans (by simpa using hcs 4 _ rfl);have htk:=countsM_take kids i u hu;have hle:=countsM_le kids (i+1);have hnt:=nodesL_take kids i u hu;have hbsz:=HB.out.size;have hcall:=HIH.out u A' c' wr B (by omega) (by have:=HM.out;omega) HM.out.2 hcapu (KidsAt.below HB.out (by omega) _ _ _ hK');unfold nodeV at hcall;have HC:=kH hcall;have HTK:=kH htk;have HNT:=kH hnt
    have hub:countM u≤1000000001:=by have:=HM.out;omega
    have HUB:=kH hub;have hup:=countM_pos u;have HUP:=kH hup;have hwr:IntKind.i64.wrap ((i:Int)+1)=(i:Int)+1:=IntWalk.i64_in _ (by omega)
    obtain⟨un,hun⟩:∃ q,u.kids.length=q:=⟨_,rfl⟩
    rw[hun]at t4 HC;have HZ:Hid (W1.heap.size≤wr.heap.size∧w.heap.size≤W1.heap.size∧w.heap.size < wr.heap.size):=kH ⟨by omega,by omega,by omega⟩;clear hcs hT hK' htk hle hnt hcall hu hun hub hup hS1 hbsz hcapu
    go_wp2_with fail
    refine HC.out.mono ?_;rintro e w5 ⟨v5,n5,vals5,rfl,hn5,hO5,hV5,hb5⟩;rw[nodesM_len]at hn5
    have hn5p:0 < n5:=by rw[hn5];exact HUP.out
    obtain⟨g5,off5,cap5,rfl,hc5,hm5,hg5,hgl5,hcells5⟩:=hO5.form hn5p;have hlen5:=hV5.lens;rw[nodesM_len,← hn5]at hlen5;have hO5r:=HO.out.below hb5 (fun g hg=>(HO.out.lt g hg).2);have hsz5:=hb5.size;have HO5R:=kH hO5r;have HL5:=kH hlen5
    have HNW:Hid (∀ j u,(List.flatten vals5)[j]? = some u→w5.cell? ((⟨g5,off5,none⟩:Addr).add j)=some u):=kH (fun j u hu=>by
     have h5:=hcells5 j u hu
     by_cases h0:j=0
     ·subst h0
      simpa [Addr.add] using h5
     ·simpa [Addr.add,h0] using h5)
    have HV5:=kH hV5;have HB5:=kH hb5;have HO5:=kH hO5;have HN5:=kH hn5
    have hn5b:n5≤1000000001:=by have:=HUB.out;omega
    have HZ5:Hid (W1.heap.size≤w5.heap.size∧wr.heap.size≤g5):=kH ⟨by have:=HZ.out;omega,hg5⟩;clear hO5r hlen5 hcells5 hV5 hb5 hO5 hn5 hc5 hm5 hg5 hn5p
    go_wp2_with (at_builtin;go_must (refine wpList_append_S _ rfl (.tmp 14) (.tmp 20) _ rfl W1.heap.size 24 i0 _ 5 64 Tryz.underlying22 hi0 hz0 hz1 hz2 rfl (.slice A3 n3 c3) n3 (List.flatten vals) rfl HO5R.out ⟨g5,off5,none⟩ n5 cap5 (List.flatten vals5) rfl HL5.out.1 (HNW.out) HL5.out.2 (by simp only[maxLen];omega) (by omega) HZ5.out.1 ?_);intro vn w6 hown hgrow hat;obtain⟨A6,c6,hvn,-,-⟩:=hown.shape;subst hvn;have HOWN:=kH hown;have HGROW:=kH hgrow;clear hown hgrow hat)
    have hB6:Below W1.heap.size W2 w6:=((HB.out.trans (HB5.out.mono HZ.out.1)).trans (((Since.refl (fun g=>W1.heap.size≤g) w5).grown HGROW.out (fun g hg=>.inl (HO.out.lt g hg).1)).toBelow HZ5.out.1 (fun g hg=>hg)))
    have hb56:Below w.heap.size w5 w6:=((Since.refl (fun g=>W1.heap.size≤g) w5).grown HGROW.out (fun g hg=>.inl (HO.out.lt g hg).1)).toBelow (by have:=HZ.out;have:=HZ5.out;omega) (fun g hg=>by have:=HZ.out;omega)
    have hV6:ValsAt w6 B (t :: nodesL (kids.take (i+1))) (vals ++ vals5):=by
     rw[HNT.out,← List.cons_append];exact((HV.out.below (HB5.out.mono (by have:=HZ.out;omega)) hBw).append HV5.out).below hb56 hBw
    go_roundg (gk - 1)
    case measure=>have:=HI.out;omega
    case rel=>exact⟨i+1,A6,n3+n5,c6,vals ++ vals5,by have:=HI.out;omega,rfl,by simp,by rw[HTK.out,HN3.out,HN5.out];omega,by rw[List.flatten_append];exact HOWN.out,hV6,hB6⟩
   ·have hie:i=n:=by omega
    have htake:kids.take i=kids:=by rw[hie,← HN.out,List.take_length]
    have hV2:=HV.out;rw[htake,← HND.out]at hV2;have HV2':=kH hV2
    have hn2:n3=(nodesM t).length:=by rw[HN3.out,htake,HND.out,List.length_cons,nodesL_len];omega
    have HN2:=kH hn2;clear hV2 hn2
    go_wp2_with fail
    go_ret
    exact⟨_,n3,vals,rfl,HN2.out,HO.out.mono (by have:=HS1.out;omega),HV2'.out,HB2.out.trans (HB.out.mono (by have:=HS1.out;omega))⟩
end Go.Proofs.YtoepemlnlpamlaaGreat
namespace Go.Proofs.YtoepemlnlpamlaaGreat
set_option maxRecDepth 100000
set_option maxHeartbeats 4000000
open Go.RowKit Go.Shelf
attribute [local go_sem] Oper.semAt_some
theorem room_of_none {F:Fence} (hd:F.depth=none) (k:Nat):F.room k:=fun d h=>by rw[hd]at h;cases h
theorem round_any {F:Fence} (hd:F.depth=none) {m m':Nat} {P:Program} {l:Nat} {f:FuncId} {tmps:Array Value} {assign body:Code} {w:World} {R:Ending→World→Prop}
 (h:RoundIn F m P l f tmps assign body w R):RoundIn F m' P l f tmps assign body w R:=⟨h.1,fun c cs _=>h.2 c cs (room_of_none hd _)⟩
theorem yield_any {F:Fence} (hd:F.depth=none) {m:Nat} (m':Nat) {P:Program} {l:Nat} {args:Array Value} {W:World} {R:Ending→World→Prop} (h:YieldAt F m P l args W R):YieldAt F m' P l args W R:=by
 obtain⟨fn,tmps,assign,body,hy,hR⟩:=h;exact⟨fn,tmps,assign,body,hy,round_any hd hR⟩
structure NAt (w:World) (B M:Nat) where
 t:Tree
 A:Option Addr
 c:Nat
 kids:KidsAt w B A 0 t.kids
 small:countM t≤M
theorem nodesL_append:∀ (a b:List Tree),nodesL (a ++ b)=nodesL a ++ nodesL b
 | [],_=>rfl
 | t :: ts,b=>by simp only[List.cons_append,nodesL,nodesL_append ts b,List.append_assoc]
structure CKeep (B n₁:Nat) (W W':World):Prop where
 size:W.heap.size≤W'.heap.size
 same:∀ (g:Nat) (o:Obj),(g < B∨n₁≤g)→W.heap[g]? = some o→o.isCells=true→W'.heap[g]? = some o
theorem CKeep.refl (B n₁:Nat) (W:World):CKeep B n₁ W W:=⟨Nat.le_refl _,fun _ _ _ h _=>h⟩
theorem CKeep.trans {B n₁:Nat} {W W1 W2:World} (h:CKeep B n₁ W W1) (k:CKeep B n₁ W1 W2):CKeep B n₁ W W2 :=
 ⟨Nat.le_trans h.size k.size,fun g o hg ho hc=>k.same g o hg (h.same g o hg ho hc) hc⟩
theorem CKeep.of_below {B n₁ n:Nat} {W W':World} (h:Below n W W') (hn:n=W.heap.size):CKeep B n₁ W W' :=
 ⟨h.size,fun g o _ ho _=>(h.block g (by subst hn;exact(Array.getElem?_eq_some_iff.1 ho).1)).trans ho⟩
theorem CKeep.putObj {B n₁:Nat} {W:World} {l:Nat} {o:Obj} (o':Obj) (h:W.heap[l]? = some o) (hc:o.isCells=false):CKeep B n₁ W (W.putObj l o'):=by
 have hlt:=(Array.getElem?_eq_some_iff.1 h).1;refine⟨(grownBy_putObj' W l o').size,fun g p _ hg hp=>?_⟩
 have hne:g≠l:=fun e=>by
  subst e;rw[h]at hg
  cases hg
  rw[hc]at hp
  cases hp
 exact((grownBy_putObj' W l o').block g (Array.getElem?_eq_some_iff.1 hg).1 (fun e=>hne (by cases e;rfl))).trans hg
theorem CKeep.setCell {B n₁:Nat} {W:World} (p:Addr) (u:Value) (h1:B≤p.block) (h2:p.block < n₁):CKeep B n₁ W (W.setCell p u) :=
 ⟨by simp,fun g o hg ho _=>(Below.heap_setCell W p u g (by omega)).trans ho⟩
theorem cell_obj {W:World} {p:Addr} {v:Value} (h:W.cell? p=some v):∃ o,W.heap[p.block]? = some o∧o.isCells=true:=by
 unfold World.cell? at h
 cases ho:W.heap[p.block]? with
 | none=>rw[ho]at h;simp at h
 | some o =>
  refine⟨o,rfl,?_⟩;rw[ho]at h
  cases o <;> simp_all [Obj.isCells]
theorem CKeep.cell {B n₁:Nat} {W W':World} (h:CKeep B n₁ W W') {p:Addr} {v:Value} (hp:p.block < B∨n₁≤p.block) (hv:W.cell? p=some v):W'.cell? p=some v:=by
 obtain⟨o,ho,hc⟩:=cell_obj hv;have h2:=h.same _ _ hp ho hc;unfold World.cell? at hv ⊢;rw[h2];rw[ho]at hv;exact hv
theorem CKeep.blk {B n₁:Nat} {W W':World} (h:CKeep B n₁ W W') {g:Nat} {t:TypeId} {cs:Array Value} (hg:g < B∨n₁≤g) (hb:Blk W g t cs):Blk W' g t cs:=h.same g _ hg hb rfl
theorem visit_in (F:Fence) (hd:F.depth=none) (hf:F.fn 200) (hro:F.round=none) (l B n₁ M N:Nat) (hB:B≤n₁) (hM:M≤1000000000) (w0:World) (J Jx:List (NAt w0 B M)→World→Prop)
 (hJ:∀ s W o,J s W→J s (W.alloc o))
 (hY:∀ m pre x W,J pre W→pre.length < N→YieldAt F m Tryz.prog l #[nodeV x.t x.A x.c] W fun e W' =>
  (e = .returned (.bool true)∧J (pre ++ [x]) W'∧CKeep B n₁ W W')∨(e = .returned (.bool false)∧Jx (pre ++ [x]) W')) :
 ∀ (m:Nat) (t:Tree) (A:Option Addr) (c n:Nat) (pre:List (NAt w0 B M)) (W:World),countM t≤m→m≤M→KidsAt w0 B A 0 t.kids→CKeep B n₁ w0 W→n₁≤W.heap.size→J pre W→pre.length+countM t≤N →
  CallsIn F n Tryz.prog 200 #[nodeV t A c,.func (.yield l) #[] #[]] W fun e W' =>
   (e = .returned (.bool true)∧∃ ys:List (NAt w0 B M),ys.map (·.t)=nodesM t∧J (pre ++ ys) W'∧CKeep B n₁ W W') ∨
   (e = .returned (.bool false)∧∃ q:List (NAt w0 B M),q.map (·.t) <+: nodesM t∧Jx (pre ++ q) W'):=by
 intro m
 induction m with
 | zero =>
  intro t A c n pre W h;have:=countM_pos t;omega
 | succ m ih =>
  intro t A c n pre W hm hmM hk hw0 hsz hj hN
  have hdd:∀ k:Nat,(F.depth.isSome=true→1≤k):=fun k h=>by rw[hd]at h;cases h
  have hce:=countM_eq t;have hnd:=nodesM_eq t
  obtain⟨x,hx⟩:∃ x:NAt w0 B M,x=⟨t,A,c,hk,by omega⟩:=⟨_,rfl⟩
  have hy0:=fun W' hj'=>hY (n - 1) pre x W' hj' (by omega)
  have hxt:x.t=t:=by rw[hx]
  have hxA:x.A=A:=by rw[hx]
  have hxc:x.c=c:=by rw[hx]
  rw[hxt,hxA,hxc]at hy0;clear hx
  obtain⟨kids,hkids⟩:∃ x,t.kids=x:=⟨_,rfl⟩
  obtain⟨nk,hn⟩:∃ x,kids.length=x:=⟨_,rfl⟩
  unfold nodeV at hy0 ⊢;rw[hkids]at hk hce hnd hy0 ⊢;rw[hn]at hy0 ⊢
  obtain⟨k,hk0⟩:∃ x,t.kind=x:=⟨_,rfl⟩
  obtain⟨tx,hx0⟩:∃ x,t.text=x:=⟨_,rfl⟩
  obtain⟨a,ha0⟩:∃ x,t.at_=x:=⟨_,rfl⟩
  obtain⟨z,hzz⟩:∃ x,t.end_=x:=⟨_,rfl⟩
  rw[hk0,hx0,ha0,hzz]at hy0 ⊢;have hcl:=counts_len kids
  have hnb:nk≤1000000000:=by omega
  generalize hW1:W.alloc (.cells #[.int .i64 k,.string tx,.int .i64 a,.int .i64 z,.slice A nk c] 24)=W1
  have hj1:J pre W1:=by rw[← hW1];exact hJ _ _ _ hj
  have hk1:CKeep B n₁ W W1:=by rw[← hW1];exact CKeep.of_below (below_alloc _ _) rfl
  have hR1:Blk W1 W.heap.size 24 #[.int .i64 k,.string tx,.int .i64 a,.int .i64 z,.slice A nk c]:=by rw[← hW1];exact Blk.new W _ _
  have hy1:=(hy0 W1 hj1).mono (R':=fun e W2=>(e = .returned (.bool true)∧W2.cell? ⟨W.heap.size,4,none⟩=some (.slice A nk c)∧J (pre ++ [x]) W2∧CKeep B n₁ W W2)∨(e = .returned (.bool false)∧Jx (pre ++ [x]) W2))
   (fun e W2 h=>h.elim (fun ⟨h1,h2,h3⟩=>.inl ⟨h1,(h3.blk (.inr hsz) hR1).cell 4,h2,hk1.trans h3⟩) .inr)
  rw[← hW1]at hy1;clear hy0 hW1 hj1 hk1 hR1;refine callsIn_of_wp Tryz.func200 rfl hf ?_ hro;simp only[Tryz.ntmps200,List.size_toArray,List.length_cons,List.length_nil,Nat.reduceAdd,Nat.reduceSub,Array.replicate_succ,Array.replicate_zero,List.push_toArray,List.append_toArray,List.nil_append,List.cons_append];obtain⟨fn,tmps,assign,body,hy,hR⟩:=hy1
  gi_wp2_with (first
   | ((try refine⟨hdd _,?_⟩);refine hR.mono ?_;clear hR;rintro e W2 (⟨rfl,c4,hJ2,hk2⟩ | ⟨rfl,hx2⟩)))
  ·have HK:=kH hk
   have HN:=kH hn;have HND:=kH hnd;have HIH:=kH ih;have HM:Hid (countsM kids≤m∧m≤1000000000∧m≤M∧pre.length+1+countsM kids≤N):=kH ⟨by omega,by omega,by omega,by omega⟩;have HJ:=kH hJ;have HW0:=kH hw0;have HJ2:=kH hJ2;have HK2:=kH hk2;have HXT:=kH hxt;clear hk hn hnd ih hm hmM hN hY hJ hw0 hJ2 hk2 hj hce hkids hcl hxt hxA hxc c4
   gi_loopw [14] (fun p wr => ∃ (i:Nat) (ys:List (NAt w0 B M)),p = .int .i64 (i:Int)∧i≤nk∧Hid (ys.map (·.t)=nodesL (kids.take i)∧J (pre ++ x :: ys) wr∧CKeep B n₁ W wr)) (fun p _=>nk - (intOf p).toNat)
   case atStart=>exact⟨0,[],rfl,Nat.zero_le _,kH ⟨by simp[nodesL],HJ2.out,HK2.out⟩⟩
   case round =>
    obtain⟨i,ys,rfl,hi,HI⟩:=hrel
    by_cases hlt:i < nk
    ·obtain⟨u,hu⟩:∃ u,kids[i]? = some u:=⟨_,List.getElem?_eq_getElem (by rw[HN.out];exact hlt)⟩
     obtain⟨kv,⟨b,off,hA,hbl,hcs⟩,hT⟩:=HK.out.get i u hu;obtain⟨A',c',hvals,hK'⟩:=hT.five
     have hbwr:b < wr.heap.size:=by have:=HI.out.2.2.size;omega
     subst hA;subst hvals;have hkw:=HW0.out.trans HI.out.2.2;have t0:wr.cell? ⟨b,off+i * 5,none⟩=some (.int .i64 u.kind):=hkw.cell (.inl hbl) (by simpa using hcs 0 _ rfl);have t1:wr.cell? ⟨b,off+i * 5+1,none⟩=some (.string u.text):=hkw.cell (.inl hbl) (by simpa using hcs 1 _ rfl);have t2:wr.cell? ⟨b,off+i * 5+2,none⟩=some (.int .i64 u.at_):=hkw.cell (.inl hbl) (by simpa using hcs 2 _ rfl);have t3:wr.cell? ⟨b,off+i * 5+3,none⟩=some (.int .i64 u.end_):=hkw.cell (.inl hbl) (by simpa using hcs 3 _ rfl);have t4:wr.cell? ⟨b,off+i * 5+4,none⟩=some (.slice A' u.kids.length c'):=hkw.cell (.inl hbl) (by simpa using hcs 4 _ rfl);have htk:=countsM_take kids i u hu;have hle:=countsM_le kids (i+1);have hnt:=nodesL_take kids i u hu;have hup:=countM_pos u
     obtain⟨W4,hW4⟩:∃ W4,wr.alloc (.cells #[.int .i64 u.kind,.string u.text,.int .i64 u.at_,.int .i64 u.end_,.slice A' u.kids.length c'] 24)=W4:=⟨_,rfl⟩
     have hk4:CKeep B n₁ W W4:=by rw[← hW4];exact HI.out.2.2.trans (CKeep.of_below (below_alloc _ _) rfl)
     have hj4:J (pre ++ x :: ys) W4:=by rw[← hW4];exact HJ.out _ _ _ HI.out.2.1
     have hlen:ys.length=countsM (kids.take i):=by rw[← nodesL_len,← HI.out.1,List.length_map]
     have hcall:=HIH.out u A' c' (n - 1) (pre ++ x :: ys) W4 (by have:=HM.out;omega) HM.out.2.2.1 hK' (HW0.out.trans hk4) (by have:=hk4.size;omega) hj4 (by have:=HM.out;simp only[List.length_append,List.length_cons];omega)
     have hcall2:=hcall.mono (R':=fun e W5=>(e = .returned (.bool true)∧Hid (∃ zs:List (NAt w0 B M),zs.map (·.t)=nodesL (kids.take (i+1))∧J (pre ++ x :: zs) W5∧CKeep B n₁ W W5))∨(e = .returned (.bool false)∧Hid (∃ q:List (NAt w0 B M),q.map (·.t) <+: nodesL kids∧Jx (pre ++ x :: q) W5)))
      (fun e W5 h=>h.elim (fun ⟨h1,zs,h2,h3,h4⟩=>.inl ⟨h1,kH ⟨ys ++ zs,by rw[List.map_append,h2,HI.out.1,hnt],by simpa [List.append_assoc] using h3,hk4.trans h4⟩⟩)
       (fun ⟨h1,q,h2,h3⟩=>.inr ⟨h1,kH ⟨ys ++ q,by
        rw[List.map_append,HI.out.1]
        have h5:nodesL (kids.take i) ++ nodesM u <+: nodesL kids:=by
         rw[← hnt]
         conv=>rhs;rw[← List.take_append_drop (i+1) kids,nodesL_append]
         exact List.prefix_append _ _
        exact((List.prefix_append_right_inj _).2 h2).trans h5,by simpa [List.append_assoc] using h3⟩⟩))
     rw[← hW4]at hcall2;unfold nodeV at hcall2;have hwrp:IntKind.i64.wrap ((i:Int)+1)=(i:Int)+1:=IntWalk.i64_in _ (by omega)
     obtain⟨un,hun⟩:∃ q,u.kids.length=q:=⟨_,rfl⟩
     rw[hun]at t4 hcall2;clear hcs hT hK' hkw htk hle hnt hup hW4 hk4 hj4 hlen hcall hun hu HI
     gi_wp2_with (first
      | ((try refine⟨hdd _,?_⟩);gi_at_call 200;refine hcall2.mono ?_;clear hcall2;rintro e W5 (⟨rfl,HI5⟩ | ⟨rfl,HI5⟩)))
     ·obtain⟨zs,hz⟩:=HI5.out
      exact⟨⟨i+1,zs,by simp,by omega,kH hz⟩,by simp only[intOf];omega⟩
     ·go_ret
      obtain⟨q,hq,hx⟩:=HI5.out;exact .inr ⟨rfl,x :: q,by rw[HND.out,List.map_cons,HXT.out];exact List.cons_prefix_cons.2 ⟨rfl,hq⟩,hx⟩
    ·have hie:i=nk:=by omega
     subst hie
     have htake:kids.take i=kids:=by rw[← HN.out,List.take_length]
     have H1:=HI.out.1;rw[htake]at H1
     gi_wp2
     go_ret
     exact .inl ⟨rfl,x :: ys,by rw[HND.out,List.map_cons,HXT.out,H1],HI.out.2.1,HI.out.2.2⟩
  ·go_ret
   exact .inr ⟨rfl,[x],by rw[hnd];simp[hxt],hx2⟩
theorem nodes1_in (F:Fence) (hd:F.depth=none) (h1:F.fn 199) (hf:F.fn 200) (hro:F.round=none) (l Bt B n₁ M:Nat) (hB:B≤n₁) (hM:M≤1000000000) (w0:World) (n:Nat) (t:Tree) (A:Option Addr) (c:Nat) (J Jx:List (NAt w0 B M)→World→Prop)
 (hJ:∀ s W o,J s W→J s (W.alloc o))
 (hY:∀ pre x W,J pre W→pre.length < countM t→YieldAt F (n - 1) Tryz.prog l #[nodeV x.t x.A x.c] W fun e W' =>
  (e = .returned (.bool true)∧J (pre ++ [x]) W'∧CKeep B n₁ W W')∨(e = .returned (.bool false)∧Jx (pre ++ [x]) W'))
 (W:World) (hm:countM t≤M) (hk:KidsAt w0 B A 0 t.kids) (hw0:CKeep B n₁ w0 W) (hsz:n₁≤W.heap.size) (hBt:Blk W Bt 24 #[.int .i64 t.kind,.string t.text,.int .i64 t.at_,.int .i64 t.end_,.slice A t.kids.length c]) (h0:J [] W) :
 CallsIn F n Tryz.prog 199 #[.func (.yield l) #[] #[],.pointer (some ⟨Bt,0,none⟩)] W fun e W'=>(∃ v,e = .returned v) ∧
  ((∃ ys:List (NAt w0 B M),ys.map (·.t)=nodesM t∧J ys W')∨(∃ pre:List (NAt w0 B M),pre.map (·.t) <+: nodesM t∧Jx pre W')):=by
 have hdd:∀ k:Nat,(F.depth.isSome=true→1≤k):=fun k h=>by rw[hd]at h;cases h
 have hp:=visit_in F hd hf hro l B n₁ M (countM t) hB hM w0 J Jx hJ (fun m pre x W hj hl=>yield_any hd m (hY pre x W hj hl)) M t A c (n - 1) [] W hm (Nat.le_refl _) hk hw0 hsz h0 (by simp);unfold nodeV at hp;have c0:=hBt.cell 0;have c1:=hBt.cell 1;have c2:=hBt.cell 2;have c3:=hBt.cell 3;have c4:=hBt.cell 4;have hlt:=hBt.lt;clear hY hJ hBt;refine callsIn_of_wp Tryz.func199 rfl h1 ?_ hro;simp only[Tryz.ntmps199,List.size_toArray,List.length_cons,List.length_nil,Nat.reduceAdd,Nat.reduceSub,Array.replicate_succ,Array.replicate_zero,List.push_toArray,List.append_toArray,List.nil_append,List.cons_append]
 gi_wp2_with ((try refine⟨hdd _,?_⟩);gi_at_call 200;refine hp.mono ?_;clear hp;rintro e W1 (⟨rfl,q,h2,h3,h4⟩ | ⟨rfl,q,h2,h3⟩))
 ·go_end0
  exact⟨⟨_,rfl⟩,.inl ⟨q,h2,by simpa using h3⟩⟩
 ·go_end0
  exact⟨⟨_,rfl⟩,.inr ⟨q,h2,by simpa using h3⟩⟩
theorem blk_ownFrom {β:Type} (B g:Nat) (t:TypeId) (f:β→Array Value):OwnFrom B (fun s W=>Blk W g t (f s)):=fun s X Y row hs hg hr=>Blk.grown hs hg (fun e=>by
 obtain⟨_,o,ho,hc⟩:=hr g e.symm;rw[show X.heap[g]? = _ from hs]at ho
 cases ho
 cases hc)
theorem nodes_stops (F:Fence) (hd:F.depth=none) (n:Nat) (h1:F.fn 199) (hf:F.fn 200) (hro:F.round=none) (Bt B n₁ M:Nat) (hB:B≤n₁) (hM:M≤1000000000) (w0 w:World) (t:Tree) (A:Option Addr) (c:Nat)
 (hm:countM t≤M) (hk:KidsAt w0 B A 0 t.kids) (hw0:CKeep B n₁ w0 w) (hsz:n₁≤w.heap.size) (hBt:Blk w Bt 24 #[.int .i64 t.kind,.string t.text,.int .i64 t.at_,.int .i64 t.end_,.slice A t.kids.length c]) :
 SeqStopsK F n Tryz.prog 199 #[.pointer (some ⟨Bt,0,none⟩)] (fun x:NAt w0 B M => #[nodeV x.t x.A x.c]) (CKeep B n₁) (fun ys=>ys.map (·.t)=nodesM t) (fun pre=>pre.map (·.t) <+: nodesM t) (countM t) w :=
 fun l J Jx W hW hJ _ hY h0 =>
  nodes1_in F hd h1 hf hro l Bt B n₁ M hB hM w0 n t A c J Jx (fun s X o hs=>hJ s X _ none hs (World.grownBy_alloc X o none) (fun r e=>by cases e)) hY W hm hk (hw0.trans (CKeep.of_below hW rfl)) (Nat.le_trans hsz hW.size) (hBt.below hW hBt.lt) h0
theorem nodes_any (t:Tree) (A:Option Addr) (c:Nat) (w:World) :
 Calls Tryz.prog 142 #[nodeV t A c] w fun e w'=>e = .returned (.func (.func 199) #[] #[.pointer (some ⟨w.heap.size,0,none⟩)])∧w'=w.alloc (.cells #[.int .i64 t.kind,.string t.text,.int .i64 t.at_,.int .i64 t.end_,.slice A t.kids.length c] 24):=by
 unfold nodeV
 go_enter Tryz.func142,Tryz.ntmps142
 go_wp2_with fail
 go_ret
 exact⟨rfl,rfl⟩
theorem count_any (t:Tree) (A:Option Addr) (c:Nat) (w:World) (hm:countM t≤1000000000) (hk:KidsAt w w.heap.size A 0 t.kids) :
 Calls Tryz.prog 77 #[nodeV t A c] w fun e w'=>e = .returned (.int .i64 (countM t:Int))∧Below w.heap.size w w':=by
 refine(callsIn_wide (n:=6)).1 ?_
 have hnodes:=fun w'=>nodes_any t A c w'
 unfold nodeV at hnodes ⊢;refine callsIn_of_wp_marks Tryz.func77 rfl trivial ?_ rfl;simp only[Tryz.ntmps77,List.size_toArray,List.length_cons,List.length_nil,Nat.reduceAdd,Nat.reduceSub,Array.replicate_succ,Array.replicate_zero,List.push_toArray,List.append_toArray,List.nil_append,List.cons_append]
 gi_wp2_with (refine⟨trivial,?_⟩;gi_at_call 142;refine(callsIn_wide.2 (hnodes _)).mono ?_;rintro e w' ⟨rfl,rfl⟩)
 have hS:Blk (w.alloc (.cells #[.int .i64 t.kind,.string t.text,.int .i64 t.at_,.int .i64 t.end_,.slice A t.kids.length c] 24)) w.heap.size 24 #[.int .i64 t.kind,.string t.text,.int .i64 t.at_,.int .i64 t.end_,.slice A t.kids.length c]:=Blk.new w _ _
 generalize hW1:w.alloc (.cells #[.int .i64 t.kind,.string t.text,.int .i64 t.at_,.int .i64 t.end_,.slice A t.kids.length c] 24)=W1 at hS
 have hb1:Below w.heap.size w W1:=by rw[← hW1];exact below_alloc _ _
 have hs1:W1.heap.size=w.heap.size+1:=by rw[← hW1];simp
 have hS2:Blk (W1.alloc (.cells #[.int .i64 0] 3)) (w.heap.size+1) 3 #[.int .i64 0]:=by rw[← hs1];exact Blk.new W1 _ _
 generalize hW2:W1.alloc (.cells #[.int .i64 0] 3)=W2 at hS2
 have hb2:Below W1.heap.size W1 W2:=by rw[← hW2];exact below_alloc _ _
 have hs2:W2.heap.size=w.heap.size+2:=by rw[← hW2];simp[hs1]
 have hN3:Blk (W2.alloc (.cells #[.int .i64 t.kind,.string t.text,.int .i64 t.at_,.int .i64 t.end_,.slice A t.kids.length c] 24)) (w.heap.size+1+1) 24 #[.int .i64 t.kind,.string t.text,.int .i64 t.at_,.int .i64 t.end_,.slice A t.kids.length c]:=by
  rw[show w.heap.size+1+1=W2.heap.size by omega];exact Blk.new W2 _ _
 generalize hW3:W2.alloc (.cells #[.int .i64 t.kind,.string t.text,.int .i64 t.at_,.int .i64 t.end_,.slice A t.kids.length c] 24)=W3 at hN3 ⊢
 have hb3:Below W2.heap.size W2 W3:=by rw[← hW3];exact below_alloc _ _
 have hs3:W3.heap.size=w.heap.size+3:=by rw[← hW3];simp[hs2]
 have hS3:=hS2.below hb3 hS2.lt;have hb03:Below w.heap.size w W3:=(hb1.trans (hb2.mono (by omega))).trans (hb3.mono (by omega));have hk3:=KidsAt.below hb03 (Nat.le_refl _) _ _ _ hk;clear hW1 hW2 hW3 hS2 hS hb1 hb2 hb3 hs1 hs2 hk
 have h1:1≤6:=by omega
 refine wpIn_rangeFunc_ownF rfl h1 (gf:=199) (lb:=#[.pointer (some ⟨w.heap.size+1+1,0,none⟩)]) rfl trivial (enters_of Tryz.func199 (by kernel_rfl) rfl)
  (nodes_stops Fence.wide rfl (6 - 1) trivial trivial rfl (w.heap.size+1+1) w.heap.size (w.heap.size+3) 1000000000 (by omega) (Nat.le_refl _) W3 W3 t A c hm hk3 (CKeep.refl _ _ _) (by omega) hN3) CKeep.trans (fun W l o o' _ h hc _=>CKeep.putObj o' h hc) (Below.refl _ _) (fun _=>rfl)
  (fun pre W=>Blk W (w.heap.size+1) 3 #[.int .i64 (pre.length:Int)]∧Below w.heap.size w W)
  (fun _ _ _=>False)
  (OwnFrom.and (blk_ownFrom _ _ _ _) (ownFrom_below (Nat.le_refl _) (by omega)))
  (fun _ _ _ _ _ hs _ _=>hs)
  ⟨hS3,hb03⟩
  (fun x => { tmps:=#[.agg #[.int .i64 t.kind,.string t.text,.int .i64 t.at_,.int .i64 t.end_,.slice A t.kids.length c],.pointer (some ⟨w.heap.size,0,none⟩),.int .i64 0,.pointer (some ⟨w.heap.size+1,0,none⟩),.agg #[.int .i64 t.kind,.string t.text,.int .i64 t.at_,.int .i64 t.end_,.slice A t.kids.length c],
   .func (.func 199) #[] #[.pointer (some ⟨w.heap.size+1+1,0,none⟩)],nodeV x.t x.A x.c,undef,undef,undef],defers:=[] }) ?assign ?body ?done ?stop
 case assign =>
  intro l x W K hK
  gi_wp2
  simpa using hK
 case body =>
  rintro l pre x W ⟨hc,hf⟩ hl;have c0:=hc.cell 0;have f0:=hc.frozen 0;have hlt:=hc.lt;have hwr:IntKind.i64.wrap ((pre.length:Int)+1)=(pre.length:Int)+1:=IntWalk.i64_in _ (by omega);have HS3:=kH hs3;have HC:=kH hc;have HF:=kH hf;clear hk3 hS3 hN3 hb03 hnodes hc hf hs3
  gi_wp2
  exact⟨KeepsOthers.setCell _ _ _,CKeep.setCell _ _ (by show w.heap.size≤w.heap.size+1;omega) (by show w.heap.size+1 < w.heap.size+3;omega),by simpa using HC.out.set_ 0 (.int .i64 ((pre.length:Int)+1)),HF.out.setCell (p:=⟨w.heap.size+1,0,none⟩) (by show w.heap.size≤w.heap.size+1;omega) _⟩
 case done =>
  rintro D ys W hD hys ⟨hc,hf⟩ hK;have c0:=hc.cell 0
  have hys2:ys.length=countM t:=by rw[← nodesM_len,← hys,List.length_map]
  have HK:=kH hK;have HF:=kH hf
  have hD2:w.heap.size≤D:=by omega
  clear hk3 hS3 hN3 hb03 hnodes hc hf hs3 hK hys
  gi_wp2
  refine⟨by simp,.inl ⟨_,_,rfl,run_takeDeferred HK.out,?_⟩⟩;refine⟨_,results_tmp rfl _ _ _,?_⟩;exact⟨rfl,HF.out.trans (belowK_b (w:=w) (Nat.le_refl _) W D _ _ hD2 HK.out rfl rfl)⟩
 case stop =>
  rintro D c pre W _ _ h _;exact h.elim
end Go.Proofs.YtoepemlnlpamlaaGreat
