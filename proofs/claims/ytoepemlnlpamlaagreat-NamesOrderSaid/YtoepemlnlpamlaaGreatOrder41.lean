/- The law NamesOrder holds: for every text and both numbers the law returns true, and its arguments read as before. No condition. Part 41: HeldQ LawO2 Row HoldO. -/
import Derived.Test.YtoepemlnlpamlaaGreatRows
import Derived.ProofKit
import Derived.Below
import Derived.ChangeSame
import Derived.Lib.SmallJoins
import Derived.ChangeMaps5
import Derived.Test.YtoepemlnlpamlaaGreatOrder13
import Derived.Test.YtoepemlnlpamlaaGreatOrder40
namespace Go.Proofs.YtoepemlnlpamlaaGreat
set_option maxRecDepth 100000
set_option maxHeartbeats 4000000
section
variable {P:Program} {ops:Array Oper} {Q:Exit→Act→World→Prop} {md:Region.Mode} {S T:World→Prop} {ex:List Nat}
def wpAnyQ (P:Program) (md:Region.Mode) (ops:Array Oper) (Q:Exit→Act→World→Prop) (S T:World→Prop) (ex:List Nat):Nat→Array Bool→Act→World→Prop
 | 0,listed,a,w=>Region.ready md ops listed = []∧Q .normal a w
 | fuel+1,listed,a,w =>
  (Region.ready md ops listed = []→Q .normal a w) ∧
  ∀ i ∈ Region.ready md ops listed,wpOp P ops Q i (fun a' w'=>(T w'∧(i ∉ ex→S w'))∧wpAnyQ P md ops Q S T ex fuel (listed.setIfInBounds i true) a' w') a w
theorem wpAny_of_Q:∀ (fuel:Nat) (listed:Array Bool) (a:Act) (w:World),wpAnyQ P md ops Q S T ex fuel listed a w→wpAny P md ops Q fuel listed a w
 | 0,_,_,_,h=>h
 | fuel+1,_,_,_,h=>⟨h.1,fun i hi=>wpOp_mono (fun a' w' h'=>wpAny_of_Q fuel _ a' w' h'.2) (h.2 i hi)⟩
theorem wpAnyQ_first {U:World→Prop} {i:Nat} {oi:Oper} {v:Value} (hi:ops[i]? = some oi) (hsel:∀ (j:Nat) (o:Oper) cs b,ops[j]? = some o→o.op ≠ .select cs b)
 (hTS:∀ w,U w→T w∧(i ∉ ex→S w)) (hQ:∀ c a w,Q (.panic c) (a.put oi.dst v) w→Q (.panic c) a w) :
 ∀ (fuel:Nat) (listed:Array Bool) (a:Act) (w:World),
  (∀ j w,listed.getD j true=false→Region.waitsFor md ops j i=false→T w→(j ∉ ex→S w)→U w) →
  (∀ j oj,ops[j]? = some oj→j≠i→listed.getD j true=false→(∀ e ∈ oj.after,Region.binds md e=true→e.on≠i)→oi.apart ops oj=true) →
  i ∈ Region.ready md ops listed→YieldsIf P ops U oi v a→U w →
  wpAnyQ P md ops Q S T ex fuel (listed.setIfInBounds i true) (a.put oi.dst v) w→wpAnyQ P md ops Q S T ex (fuel+1) listed a w:=by
 intro fuel
 induction fuel with
 | zero =>
  intro listed a w _ _ hr hy hU H;refine⟨fun h=>(by rw[h]at hr;cases hr),fun j hj=>?_⟩
  by_cases hji:j=i
  ·subst hji;exact hy.wpOp hi hU ⟨hTS _ hU,H⟩
  ·have:=ready_mono hj hji
   rw[H.1]at this
   cases this
 | succ fuel ih =>
  intro listed a w hex hfree hr hy hU H;refine⟨fun h=>(by rw[h]at hr;cases hr),fun j hj=>?_⟩
  by_cases hji:j=i
  ·subst hji;exact hy.wpOp hi hU ⟨hTS _ hU,H⟩
  ·have h1:=H.2 j (ready_mono hj hji)
   obtain⟨hjun,oj,hoj,hall⟩:=mem_ready.1 hj
   have hnot:∀ e ∈ oj.after,Region.binds md e=true→e.on≠i:=fun e he hb heq=>by
    have h1:=hall e he hb;have h0:=(mem_ready.1 hr).1;rw[heq]at h1
    rcases Nat.lt_or_ge i listed.size with h' | h'
    ·simp[h']at h0 h1;rw[h0]at h1;cases h1
    ·simp[Array.getElem?_eq_none h']at h1
   have hjw:Region.waitsFor md ops j i=false:=by
    cases hw:Region.waitsFor md ops j i with
    | false=>rfl
    | true =>
     obtain⟨oj',hj',e,he,hb,hon⟩:=Region.waitsFor_spec hw;rw[hoj]at hj'
     cases hj'
     exact absurd hon (hnot e he hb)
   have h2:=wpOp_putIf hoj (hfree j oj hoj hji hjun hnot) (fun cs b=>hsel i oi cs b hi) (fun cs b=>hsel j oj cs b hoj) hQ hy h1
   have hkeep:∀ k,(listed.setIfInBounds j true).getD k true=false→listed.getD k true=false:=fun k hun=>by
    by_cases hjk:j=k
    ·subst hjk;exact hjun
    ·rw[getD_set_ne true hjk]at hun;exact hun
   refine wpOp_mono (fun a' w' h3=>⟨h3.2.1,?_⟩) h2;refine ih (listed.setIfInBounds j true) a' w' (fun k w1 hk=>hex k w1 (hkeep k hk)) (fun k ok hk hki hun hno=>hfree k ok hk hki (hkeep k hun) hno) (ready_mono hr (Ne.symm hji)) h3.1 (hex j w' hjun hjw h3.2.1.1 h3.2.1.2) ?_;rw[Array.setIfInBounds_comm _ _ hji];exact h3.2.2
def wpHQ (P:Program) (ops:Array Oper) (Q:Exit→Act→World→Prop) (S T:World→Prop) (ex:List Nat):List (Nat × Nat)→Act→World→Prop
 | [],a,w=>Q .normal a w
 | (k,0) :: ss,a,w => ∃ o,ops[k]? = some o∧∃ v,YieldsIf P ops T o v a∧T w∧wpHQ P ops Q S T ex ss (a.put o.dst v) w
 | (k,1) :: ss,a,w => ∃ o,ops[k]? = some o∧∃ v,YieldsIf P ops (fun w=>T w∧S w) o v a∧(T w∧S w)∧wpHQ P ops Q S T ex ss (a.put o.dst v) w
 | (k,_) :: ss,a,w => ∃ o,ops[k]? = some o∧Region.wanted o (yielded ops a.tmps)=true∧o.wp P a w (fun a' w'=>(T w'∧(ex.contains k=false→S w'))∧wpHQ P ops Q S T ex ss a' w') Q
def heldQ (md:Region.Mode) (ops:Array Oper) (ex:List Nat):List (Nat × Nat)→Array Bool→Bool
 | [],listed=>(Region.ready md ops listed).isEmpty
 | (k,0) :: ss,listed=>Region.free md ops listed k && (Region.ready md ops listed).contains k && ex.contains k && heldQ md ops ex ss (listed.setIfInBounds k true)
 | (k,1) :: ss,listed=>Region.free md ops listed k && (Region.ready md ops listed).contains k && ex.all (fun j=>listed.getD j true || Region.waitsFor md ops j k) && heldQ md ops ex ss (listed.setIfInBounds k true)
 | (k,_) :: ss,listed=>(Region.ready md ops listed == [k]) && heldQ md ops ex ss (listed.setIfInBounds k true)
theorem wpAnyQ_of_HQ (hs:Region.noSelect ops=true) (hQ:∀ c a b w,Q (.panic c) a w→Q (.panic c) b w):∀ (ss:List (Nat × Nat)) (listed:Array Bool) (a:Act) (w:World),
 heldQ md ops ex ss listed=true→wpHQ P ops Q S T ex ss a w→wpAnyQ P md ops Q S T ex ss.length listed a w:=by
 intro ss
 induction ss with
 | nil =>
  intro listed a w hB h;exact⟨by simpa [heldQ] using hB,by simpa [wpHQ] using h⟩
 | cons s ss ih =>
  intro listed a w hB h;obtain⟨k,s⟩:=s
  match s with
  | 0 =>
   simp only[heldQ,Bool.and_eq_true]at hB;obtain⟨⟨⟨h1,h2⟩,h3⟩,h4⟩:=hB;obtain⟨o,hok,v,hy,hS,h5⟩:=h;exact wpAnyQ_first (U:=T) hok (Region.noSelect_spec hs) (fun w hw=>⟨hw,fun hn=>absurd (by simpa using h3) hn⟩) (fun c a w hq=>hQ c _ _ w hq) ss.length listed a w (fun _ _ _ _ ht _=>ht) (Region.free_spec hok h1) (by simpa using h2) hy hS (ih _ _ w h4 h5)
  | 1 =>
   simp only[heldQ,Bool.and_eq_true]at hB;obtain⟨⟨⟨h1,h2⟩,h3⟩,h4⟩:=hB;obtain⟨o,hok,v,hy,hS,h5⟩:=h;refine wpAnyQ_first (U:=fun w=>T w∧S w) hok (Region.noSelect_spec hs) (fun w hw=>⟨hw.1,fun _=>hw.2⟩) (fun c a w hq=>hQ c _ _ w hq) ss.length listed a w (fun j w hj hw ht hn=>⟨ht,hn (fun hm=>?_)⟩) (Region.free_spec hok h1) (by simpa using h2) hy hS (ih _ _ w h4 h5);have:=List.all_eq_true.1 h3 j hm;rw[hj,hw]at this
   cases this
  | n+2 =>
   simp only[heldQ,Bool.and_eq_true,beq_iff_eq]at hB;obtain⟨h1,h2⟩:=hB;obtain⟨o,hok,hg,h5⟩:=h;refine⟨fun h0=>(by rw[h0]at h1;cases h1),fun i hi=>?_⟩;rw[h1]at hi;simp at hi;subst hi;unfold wpOp;simp only[hok,hg,if_true];refine .inl (Oper.wp_mono (fun a' w' h6=>⟨⟨h6.1.1,fun hn=>h6.1.2 (by simpa using hn)⟩,ih (listed.setIfInBounds i true) a' w' h2 h6.2⟩) h5)
theorem wp_region_HQ {id:Nat} {a:Act} {w:World} {l:List Oper} (S T:World→Prop) (ex:List Nat) (ss:List (Nat × Nat)) (hm:P.follows .mixedOrders=true) (hs:Region.noSelect l.toArray=true)
 (hl:ss.length=l.length) (hB:heldQ .any l.toArray ex ss (Array.replicate l.length false)=true) (h:wpHQ P l.toArray (NoPanic Q) S T ex ss a w.drew):(Code.region id l.toArray true).wp P Q a w:=by
 refine wp_region_noPanic (wp_region_any hm (wpAny_of_Q (S:=S) (T:=T) (ex:=ex) _ _ _ _ ?_));have:=wpAnyQ_of_HQ (P:=P) (S:=S) (T:=T) (md:=.any) hs (Q:=NoPanic Q) (fun c a b w hq=>(hq:False).elim) ss (Array.replicate l.length false) a w.drew hB h
 simpa [hl] using this
theorem wpHQ_nil {a:Act} {w:World} (h:Q .normal a w):wpHQ P ops (NoPanic Q) S T ex [] a w:=h
theorem wpHQ_softT {k:Nat} {ss:List (Nat × Nat)} {o:Oper} {a:Act} {w:World} {v:Value} (ho:ops[k]? = some o) (hg:Region.wanted o (yielded ops a.tmps)=true) (hS:T w) (hy:∀ w',T w'→(execOp a.eval o).run P w' = .ok (.value v) w')
 (h:wpHQ P ops Q S T ex ss (a.put o.dst v) w):wpHQ P ops Q S T ex ((k,0) :: ss) a w :=
 ⟨o,ho,v,.inl ⟨hg,hy⟩,hS,h⟩
theorem wpHQ_softS {k:Nat} {ss:List (Nat × Nat)} {o:Oper} {a:Act} {w:World} {v:Value} (ho:ops[k]? = some o) (hg:Region.wanted o (yielded ops a.tmps)=true) (hS:T w∧S w) (hy:∀ w',(T w'∧S w')→(execOp a.eval o).run P w' = .ok (.value v) w')
 (h:wpHQ P ops Q S T ex ss (a.put o.dst v) w):wpHQ P ops Q S T ex ((k,1) :: ss) a w :=
 ⟨o,ho,v,.inl ⟨hg,hy⟩,hS,h⟩
theorem wpHQ_skip {k:Nat} {ss:List (Nat × Nat)} {o:Oper} {a:Act} {w w':World} (ho:ops[k]? = some o) (hg:Region.wanted o (yielded ops a.tmps)=true) (hr:(execOp a.eval o).run P w = .ok .skip w') (hT:T w') (hS:ex.contains k=false→S w')
 (h:wpHQ P ops Q S T ex ss (a.put o.dst undef) w'):wpHQ P ops Q S T ex ((k,2) :: ss) a w :=
 ⟨o,ho,hg,by unfold Oper.wp;rw[hr];exact⟨⟨hT,hS⟩,h⟩⟩
theorem wpHQ_run {k:Nat} {ss:List (Nat × Nat)} {o:Oper} {a:Act} {w w':World} {v:Value} (ho:ops[k]? = some o) (hg:Region.wanted o (yielded ops a.tmps)=true) (hr:(execOp a.eval o).run P w = .ok (.value v) w') (hT:T w') (hS:ex.contains k=false→S w')
 (h:wpHQ P ops Q S T ex ss (a.put o.dst v) w'):wpHQ P ops Q S T ex ((k,2) :: ss) a w :=
 ⟨o,ho,hg,by unfold Oper.wp;rw[hr];exact⟨⟨hT,hS⟩,h⟩⟩
end
end Go.Proofs.YtoepemlnlpamlaaGreat
namespace Go.Proofs.YtoepemlnlpamlaaGreat
set_option maxRecDepth 100000
set_option maxHeartbeats 4000000
open Go.RowKit
theorem since_cell {S:Nat→Prop} {a w:World} (h:Since S a w) {p:Addr} (hp:p.block < a.heap.size) (hS:¬ S p.block):w.cell? p=a.cell? p:=by
 simp only[World.cell?,h.block p.block hp hS]
theorem swap_kids {w1 Z:World} {B rg ro n cap base a b:Nat} {e:TypeId} {ks:List Tree} {vals:List (List Value)} {ta tb:Tree} {a0 a1 a2 a3 a4 b0 b1 b2 b3 b4:Value} (hva:ValsAt w1 B ks vals) (hz:Below B w1 Z) (hB:B≤Z.heap.size) (hl:(List.flatten vals).length=n * 5) (ha:a < n) (hb:b < n)
 (hA:TreeAt w1 B ta [a0,a1,a2,a3,a4]) (hBt:TreeAt w1 B tb [b0,b1,b2,b3,b4]) (hO:OwnS Z base e 5 (.slice (some ⟨rg,ro,none⟩) n cap) n (putL (putL (List.flatten vals) a b0 b1 b2 b3 b4) b a0 a1 a2 a3 a4)) :
 KidsAt Z Z.heap.size (some ⟨rg,ro,none⟩) 0 ((ks.set a tb).set b ta)∧n≤cap:=by
 obtain⟨g2,o2,cap2,hv2,hnc,-,-,hlt,hrc⟩:=hO.form (by omega);simp only[Value.slice.injEq,Option.some.injEq,Addr.mk.injEq,and_true,true_and]at hv2;obtain⟨⟨rfl,rfl⟩,rfl⟩:=hv2;refine⟨KidsAt.mk hlt fun j u hu=>?_,hnc⟩
 have hup:∀ {t:Tree} {cs:List Value},TreeAt w1 B t cs→TreeAt Z Z.heap.size t cs:=fun h=>TreeAt.mono hB _ _ (TreeAt.below hz (Nat.le_refl _) _ _ h)
 have hl1:(putL (List.flatten vals) a b0 b1 b2 b3 b4).length=n * 5:=by
  unfold putL;simp only[List.length_set];exact hl
 have hcell:∀ q v,q < 5→(if j=b then [a0,a1,a2,a3,a4][q]? else if j=a then [b0,b1,b2,b3,b4][q]? else (List.flatten vals)[j * 5+q]?)=some v→Z.cell? ⟨rg,ro+(0+j) * 5+q,none⟩=some v:=fun q v hq h=>by
  have:=hrc (j * 5+q) v (by
   rw[putL_at _ _ _ _ _ _ _ (by omega) _ _ hq,putL_at _ _ _ _ _ _ _ (by omega) _ _ hq]
   exact h)
  rw[show ro+(0+j) * 5+q=ro+(j * 5+q) by omega];exact this
 rw[List.getElem?_set]at hu
 by_cases hjb:b=j
 ·rw[if_pos hjb]at hu
  have hu':ta=u:=by
   split at hu
   ·exact Option.some.inj hu
   ·cases hu
  subst hu';refine⟨_,fun q v hq=>?_,hup hA⟩
  have hq5:q < 5:=by
   have:=(List.getElem?_eq_some_iff.1 hq).1
   simpa using this
  exact hcell q v hq5 (by rw[if_pos hjb.symm];exact hq)
 ·rw[if_neg hjb,List.getElem?_set]at hu
  by_cases hja:a=j
  ·rw[if_pos hja]at hu
   have hu':tb=u:=by
    split at hu
    ·exact Option.some.inj hu
    ·cases hu
   subst hu';refine⟨_,fun q v hq=>?_,hup hBt⟩
   have hq5:q < 5:=by
    have:=(List.getElem?_eq_some_iff.1 hq).1
    simpa using this
   exact hcell q v hq5 (by rw[if_neg (Ne.symm hjb),if_pos hja.symm];exact hq)
  ·rw[if_neg hja]at hu
   obtain⟨cs,h1,h2⟩:=hva.get hu;obtain⟨A',c',hcs,-⟩:=h1.five;refine⟨cs,fun q v hq=>?_,hup h1⟩
   have hq5:q < 5:=by
    have:=(List.getElem?_eq_some_iff.1 hq).1;rw[hcs]at this
    simpa using this
   exact hcell q v hq5 (by rw[if_neg (Ne.symm hjb),if_neg (Ne.symm hja)];exact h2 q v hq)
theorem lawOrder_any (s:ByteArray) (ia ib:Nat) (hia:ia < 256) (hib:ib < 256) (w:World):Calls Tryz.prog 6 #[.string s,.int .u8 (ia:Int),.int .u8 (ib:Int)] w fun e w'=>e = .returned (.bool true)∧Below w.heap.size w w':=by
 obtain⟨i0,hi0,hz0,hz1,hz2⟩:=info_parts node_info;have HT:=kH (tree_any s);have HAWK:=kH awake_any
 go_enter Tryz.func6,Tryz.ntmps6
 go_wp2_with fail
 refine(HT.out _).mono ?_;rintro e1 w1 ⟨t,A,c,ok,rfl,hcn,hcap,hk,hb1⟩;obtain⟨k0,x0,a0,z0,n0,hk0,hx0,ha0,hz0',hn0,hnv⟩:=node_named t A c;rw[hnv]
 obtain⟨W1,hW1⟩:∃ W1,w1.alloc (.cells #[.int .i64 k0,.string x0,.int .i64 a0,.int .i64 z0,.slice A n0 c] 24)=W1:=⟨_,rfl⟩
 have hbW:Below w1.heap.size w1 W1:=by rw[← hW1];exact below_alloc _ _
 have hNW:Blk W1 w1.heap.size 24 #[.int .i64 k0,.string x0,.int .i64 a0,.int .i64 z0,.slice A n0 c]:=by rw[← hW1];exact Blk.new _ _ _
 have hres:=Resolve_any t A c W1 hcn hcap (KidsAt.mono hbW.size _ _ _ (KidsAt.below hbW (Nat.le_refl _) _ _ _ hk));rw[hnv]at hres;have HRES:=kH hres;have HB1:Hid (Below w.heap.size w W1):=kH (hb1.trans (hbW.mono hb1.size));have HBW:=kH hbW;have HNW:=kH hNW;have HCN:=kH hcn;have HK:=kH hk;have HFV:Hid (t = .node k0 x0 a0 z0 t.kids∧t.kids.length=n0∧n0≤c):=kH ⟨by cases t;simp only[Tree.kind]at hk0;simp only[Tree.text]at hx0;simp only[Tree.at_]at ha0;simp only[Tree.end_]at hz0';subst hk0 hx0 ha0 hz0';rfl,hn0,by rw[← hn0];exact hcap⟩;have n0':=hNW.cell 0;have n1:=hNW.cell 1;have n2:=hNW.cell 2;have n3:=hNW.cell 3;have n4:=hNW.cell 4;have ln:=hNW.lt;clear hres hbW hNW hcn hk hk0 hx0 ha0 hz0' hn0 hcap hnv hb1
 go_wp2_with (rw[hW1])
 clear n0' n1 n2 n3 n4 ln hW1;refine HRES.out.mono ?_;rintro e2 w2 h2
 rcases h2 with ⟨-,rfl,hb2⟩ | ⟨hval,E,V,Aw,nw,cw,rfl,hEb,hR,hnw,how,hb2⟩
 ·have HB2:Hid (Below w.heap.size w w2):=kH (HB1.out.trans (hb2.mono HB1.out.size))
  clear hb2
  cases ok
  all_goals
   go_wp2_with fail
   refine(HAWK.out _).mono ?_;rintro e3 w3 ⟨rfl,hb3⟩;have HB3:Hid (Below w.heap.size w w3):=kH (HB2.out.trans (((below_alloc w2 _).trans (hb3.mono (by simp))).mono HB2.out.size));clear hb3
   go_wp2_with fail
   go_ret
   exact⟨rfl,HB3.out⟩
 ·have HB2:Hid (Below w.heap.size w w2):=kH (HB1.out.trans (hb2.mono HB1.out.size))
  obtain⟨nd,hnd⟩:∃ q,(resolveM t).ds.length=q:=⟨_,rfl⟩
  obtain⟨nu,hnu⟩:∃ q,(resolveM t).uses.length=q:=⟨_,rfl⟩
  obtain⟨dA,hdA⟩:∃ q,V.dA=q:=⟨_,rfl⟩
  obtain⟨dc,hdc⟩:∃ q,V.dc=q:=⟨_,rfl⟩
  obtain⟨uA,huA⟩:∃ q,E.uA=q:=⟨_,rfl⟩
  obtain⟨uc,huc⟩:∃ q,E.uc=q:=⟨_,rfl⟩
  rw[hnd,hnu,hdA,hdc,huA,huc];have HND:=kH hnd;have HPR:=kH hnw;have HVAL:=kH hval
  obtain⟨nb,hnb⟩:∃ q,w1.heap.size=q:=⟨_,rfl⟩
  obtain⟨rb,hrb⟩:∃ q,w2.heap.size=q:=⟨_,rfl⟩
  obtain⟨R1,hR1⟩:∃ R1,w2.alloc (.cells #[.slice dA nd dc,.slice uA nu uc] 30)=R1:=⟨_,rfl⟩
  have hbR:Below w2.heap.size w2 R1:=by rw[← hR1];exact below_alloc _ _
  have hRR:Blk R1 w2.heap.size 30 #[.slice dA nd dc,.slice uA nu uc]:=by rw[← hR1];exact Blk.new _ _ _
  have hNR:=(HNW.out.below hb2 HNW.out.lt).below hbR (HNW.out.below hb2 HNW.out.lt).lt;have HBR:Hid (Below w.heap.size w R1):=kH (HB2.out.trans (hbR.mono HB2.out.size));have HBN:Hid (Below w1.heap.size w1 R1):=kH (HBW.out.trans ((hb2.trans (hbR.mono hb2.size)).mono HBW.out.size));rw[hnb]at hNR;rw[hrb]at hRR;have HRR:=kH hRR;have HNR:=kH hNR;have m0:=hNR.cell 0;have m1:=hNR.cell 1;have m2:=hNR.cell 2;have m3:=hNR.cell 3;have m4:=hNR.cell 4;have lm:=hNR.lt;clear hb2 hbR hRR hNR hnd hnu hdA hdc huA huc hnw hval hEb hR how HRES
  by_cases hgo:ok=true∧nw=0∧2≤n0
  ·obtain⟨rfl,rfl,h2n⟩:=hgo
   have hge2:¬ ((n0:Int) < 2):=by omega
   obtain⟨kb,koff,vals,hA,hkb,hva,hfl⟩:=KidsAt.flat HK.out (by intro h;have:=HFV.out.2.1;rw[h]at this;simp at this;omega);subst hA;obtain⟨hvl,hv1⟩:=hva.lens
   have hn0m:n0≤1000000:=by have h1:=counts_len t.kids;have h2:=countM_kids t;have h3:=HCN.out;have h4:=HFV.out.2.1;omega
   have HVA:=kH hva
   have HFL:Hid (∀ W,Below w1.heap.size w1 W→∀ j u,(List.flatten vals)[j]? = some u→W.cell? ((⟨kb,koff,none⟩:Addr).add j)=some u):=kH (fun W hb j u hj=>by
    have:=hfl j u hj;rw[show koff+0 * 5+j=koff+j by omega]at this;rw[Addr.add_lit]
    exact(hb.cell (p:=⟨kb,koff+j,none⟩) hkb).trans this)
   have HVL:Hid ((List.flatten vals).length=n0 * 5∧∀ u ∈ List.flatten vals,u.oneCell'=true):=kH ⟨by rw[hvl,HFV.out.2.1],hv1⟩;have hbA:Below R1.heap.size R1 ((R1.alloc (.cells #[.int .i64 k0,.string x0,.int .i64 a0,.int .i64 z0,.slice (some ⟨kb,koff,none⟩) n0 c] 24)).alloc (.cells #[] 24)):=((Below.refl _ R1).alloc (Nat.le_refl _) _).alloc (by simp) _
   have hEm:Blk ((R1.alloc (.cells #[.int .i64 k0,.string x0,.int .i64 a0,.int .i64 z0,.slice (some ⟨kb,koff,none⟩) n0 c] 24)).alloc (.cells #[] 24)) (R1.heap.size+1) 24 #[]:=by
    have:=Blk.new (R1.alloc (.cells #[.int .i64 k0,.string x0,.int .i64 a0,.int .i64 z0,.slice (some ⟨kb,koff,none⟩) n0 c] 24)) 24 #[]
    simpa using this
   have hMb:Blk ((R1.alloc (.cells #[.int .i64 k0,.string x0,.int .i64 a0,.int .i64 z0,.slice (some ⟨kb,koff,none⟩) n0 c] 24)).alloc (.cells #[] 24)) R1.heap.size 24 #[.int .i64 k0,.string x0,.int .i64 a0,.int .i64 z0,.slice (some ⟨kb,koff,none⟩) n0 c]:=(Blk.new _ _ _).alloc _;have HBA:=kH hbA;have HEM:=kH hEm;have HMB:=kH hMb;have hown0:OwnS ((R1.alloc (.cells #[.int .i64 k0,.string x0,.int .i64 a0,.int .i64 z0,.slice (some ⟨kb,koff,none⟩) n0 c] 24)).alloc (.cells #[] 24)) (R1.heap.size+1) 24 5 (.slice (some ⟨R1.heap.size+1,0,none⟩) 0 0) 0 []:=OwnS.block (n:=0) (cur:=#[]) (Nat.le_refl _) hEm (by simp[maxLen]) rfl;have HOW:=kH hown0;clear hva hfl hvl hv1 hbA hEm hMb hown0 hkb
   go_wp2_with (first | rw[hR1] | (at_builtin;go_must (refine wpList_append_S _ rfl (.tmp 48) (.tmp 50) _ rfl (R1.heap.size+1) 24 i0 _ 5 64 Tryz.underlying22 hi0 hz0 hz1 hz2 rfl (.slice (some ⟨R1.heap.size+1,0,none⟩) 0 0) 0 [] rfl HOW.out ⟨kb,koff,none⟩ n0 c (List.flatten vals) rfl HVL.out.1 (HFL.out _ (HBN.out.trans (HBA.out.mono HBN.out.size))) HVL.out.2 (by simp only[maxLen];omega) (by omega) (by simp) ?_);intro vn w6 hown hgrow hat;obtain⟨A6,c6,hvn,-,-⟩:=hown.shape;subst hvn;have HOWN:=kH hown;have HGROW:=kH hgrow;have hB6:=Blk.grown HMB.out hgrow (by simp[Value.ownBlock]);have q4:=hB6.cell 4;have q5:=hB6.frozen 4;have q6:=hB6.lt;have HB6:=kH hB6;clear hown hgrow hat hB6))
   obtain⟨mb,hmb⟩:∃ q,R1.heap.size=q:=⟨_,rfl⟩
   obtain⟨rg,ro,rcap,hv6,-,-,hrlo,hrlt,hrc⟩:=HOWN.out.form (by omega);simp only[Nat.zero_add,Value.slice.injEq,true_and]at hv6;obtain⟨rfl,rfl⟩:=hv6;have hrg:R1.heap.size+1≤rg:=hrlo;have ho7:=HOWN.out.setCell (p:=⟨R1.heap.size,4,none⟩) (by simp[Value.ownBlock];omega) (.slice (some ⟨rg,ro,none⟩) n0 c6);have hb7:Below R1.heap.size R1 (w6.setCell ⟨R1.heap.size,4,none⟩ (.slice (some ⟨rg,ro,none⟩) n0 c6)):=(HBA.out.trans (((Since.refl (fun g=>R1.heap.size≤g) _).grown HGROW.out (fun g hg=>.inl (by simp[Value.ownBlock]at hg;omega))).toBelow HBA.out.size (fun g hg=>hg))).setCell (p:=⟨R1.heap.size,4,none⟩) (Nat.le_refl _) _;have hM7:=HB6.out.set_ 4 (.slice (some ⟨rg,ro,none⟩) n0 c6)
   obtain⟨W7,hW7⟩:∃ W7,w6.setCell ⟨R1.heap.size,4,none⟩ (.slice (some ⟨rg,ro,none⟩) n0 c6)=W7:=⟨_,rfl⟩
   rw[hW7]at ho7 hb7 hM7
   have hM7':Blk W7 R1.heap.size 24 #[.int .i64 k0,.string x0,.int .i64 a0,.int .i64 z0,.slice (some ⟨rg,ro,none⟩) n0 c6]:=by simpa using hM7
   rw[hmb]at hM7';have HO7:Hid (OwnS W7 (R1.heap.size+1) 24 5 (.slice (some ⟨rg,ro,none⟩) n0 c6) n0 (List.flatten vals)):=kH (by simpa using ho7);have HB7:=kH hb7;have HM7:=kH hM7';have HMBE:=kH hmb
   obtain⟨a,ha⟩:∃ a:Nat,a=ia % n0:=⟨_,rfl⟩
   obtain⟨b,hb⟩:∃ b:Nat,b=ib % n0:=⟨_,rfl⟩
   have han:a < n0:=by rw[ha];exact Nat.mod_lt _ (by omega)
   have hbn:b < n0:=by rw[hb];exact Nat.mod_lt _ (by omega)
   have hra:Int.tmod (ia:Int) (n0:Int)=(a:Int):=by rw[ha];rfl
   have hrb':Int.tmod (ib:Int) (n0:Int)=(b:Int):=by rw[hb];rfl
   have hwa:IntKind.i64.wrap (ia:Int)=(ia:Int):=IntWalk.i64_in _ (by omega);have hwb:IntKind.i64.wrap (ib:Int)=(ib:Int):=IntWalk.i64_in _ (by omega);have hwa2:IntKind.i64.wrap (a:Int)=(a:Int):=IntWalk.i64_in _ (by omega);have hwb2:IntKind.i64.wrap (b:Int)=(b:Int):=IntWalk.i64_in _ (by omega)
   have hnz:((n0:Int) == 0)=false:=by simp;omega
   have hnz2:¬ (n0:Int)=0:=by omega
   have hnz3:¬ n0=0:=by omega
   have q7:=hM7'.cell 4;have l7:=hM7'.lt;rw[hmb]at hW7 ⊢;rw[hW7];clear hrc hrlo ho7 hb7 hM7 hM7' q4 q5 q6 hmb ha hb hW7 m0 m1 m2 m3 m4 lm;refine wp_region_HS (fun w'=>Below W7.heap.size W7 w'∧w'.cell? ⟨mb,4,none⟩=some (.slice (some ⟨rg,ro,none⟩) n0 c6)) [] [true,true,true,true,true,true,true,true,true,true,true,true,true,true] (by kernel_rfl) (by kernel_rfl) rfl (by kernel_rfl) ?_
   have hS0:Below W7.heap.size W7 W7.drew∧W7.drew.cell? ⟨mb,4,none⟩=some (.slice (some ⟨rg,ro,none⟩) n0 c6):=⟨(Below.refl _ _).drew,q7⟩
   iterate 14(refine wpHS_soft rfl hS0 (by intro w' hSw;obtain⟨-,hs1⟩:=hSw;go_simp;rfl) ?_;simp only[Act.put,sA,sZ,sC])
   refine wpHS_nil ?_;clear hS0
   obtain⟨ta,hta⟩:∃ x,t.kids[a]? = some x:=⟨_,List.getElem?_eq_getElem (by rw[HFV.out.2.1];exact han)⟩
   obtain⟨tb,htb⟩:∃ x,t.kids[b]? = some x:=⟨_,List.getElem?_eq_getElem (by rw[HFV.out.2.1];exact hbn)⟩
   obtain⟨csa,hTa,hfa⟩:=HVA.out.get hta;obtain⟨csb,hTb,hfb⟩:=HVA.out.get htb;obtain⟨Aa,ca,hca,-⟩:=hTa.five;obtain⟨Ab,cb,hcb,-⟩:=hTb.five
   obtain⟨ka,hka⟩:∃ q,ta.kind=q:=⟨_,rfl⟩
   obtain⟨xa,hxa⟩:∃ q,ta.text=q:=⟨_,rfl⟩
   obtain⟨aa,haa⟩:∃ q,ta.at_=q:=⟨_,rfl⟩
   obtain⟨za,hza⟩:∃ q,ta.end_=q:=⟨_,rfl⟩
   obtain⟨na,hna⟩:∃ q,ta.kids.length=q:=⟨_,rfl⟩
   obtain⟨kb',hkb'⟩:∃ q,tb.kind=q:=⟨_,rfl⟩
   obtain⟨xb,hxb⟩:∃ q,tb.text=q:=⟨_,rfl⟩
   obtain⟨ab,hab⟩:∃ q,tb.at_=q:=⟨_,rfl⟩
   obtain⟨zb,hzb⟩:∃ q,tb.end_=q:=⟨_,rfl⟩
   obtain⟨nb',hnb'⟩:∃ q,tb.kids.length=q:=⟨_,rfl⟩
   rw[hka,hxa,haa,hza,hna]at hca;rw[hkb',hxb,hab,hzb,hnb']at hcb;subst hca;subst hcb;obtain⟨rg',ro',rcap',hv7,-,-,-,hrl7,hrc7⟩:=HO7.out.form (by omega);simp only[Value.slice.injEq,Option.some.injEq,Addr.mk.injEq,and_true,true_and]at hv7;obtain⟨⟨rfl,rfl⟩,rfl⟩:=hv7
   have hrow:∀ w',Below W7.heap.size W7 w'→∀ j u,(List.flatten vals)[j]? = some u→w'.cell? ⟨rg,ro+j,none⟩=some u:=fun w' hb j u hj=>(hb.cell (p:=⟨rg,ro+j,none⟩) hrl7).trans (hrc7 j u hj)
   have hKS:∀ w',Below W7.heap.size W7 w'→(Below W7.heap.size W7 w'∧w'.cell? ⟨mb,4,none⟩=some (.slice (some ⟨rg,ro,none⟩) n0 c6)∧w'.cell? ⟨rg,ro+a * 5,none⟩=some (.int .i64 ka)∧w'.cell? ⟨rg,ro+a * 5+1,none⟩=some (.string xa)∧w'.cell? ⟨rg,ro+a * 5+2,none⟩=some (.int .i64 aa)∧w'.cell? ⟨rg,ro+a * 5+3,none⟩=some (.int .i64 za)∧w'.cell? ⟨rg,ro+a * 5+4,none⟩=some (.slice Aa na ca)∧w'.cell? ⟨rg,ro+b * 5,none⟩=some (.int .i64 kb')∧w'.cell? ⟨rg,ro+b * 5+1,none⟩=some (.string xb)∧w'.cell? ⟨rg,ro+b * 5+2,none⟩=some (.int .i64 ab)∧w'.cell? ⟨rg,ro+b * 5+3,none⟩=some (.int .i64 zb)∧w'.cell? ⟨rg,ro+b * 5+4,none⟩=some (.slice Ab nb' cb)):=fun w' hb=>by
    have e:∀ j q u,(List.flatten vals)[j * 5+q]? = some u→w'.cell? ⟨rg,ro+j * 5+q,none⟩=some u:=fun j q u h=>by
     have:=hrow w' hb _ _ h;rw[show ro+(j * 5+q)=ro+j * 5+q by omega]at this;exact this
    refine⟨hb,(hb.cell (p:=⟨mb,4,none⟩) l7).trans q7,?_,?_,?_,?_,?_,?_,?_,?_,?_,?_⟩
    ·exact e a 0 _ (hfa 0 _ rfl)
    ·exact e a 1 _ (hfa 1 _ rfl)
    ·exact e a 2 _ (hfa 2 _ rfl)
    ·exact e a 3 _ (hfa 3 _ rfl)
    ·exact e a 4 _ (hfa 4 _ rfl)
    ·exact e b 0 _ (hfb 0 _ rfl)
    ·exact e b 1 _ (hfb 1 _ rfl)
    ·exact e b 2 _ (hfb 2 _ rfl)
    ·exact e b 3 _ (hfb 3 _ rfl)
    ·exact e b 4 _ (hfb 4 _ rfl)
   have hb88:Below W7.heap.size W7 W7.drew.drew:=((Below.refl _ _).drew).drew;have hO8:OwnS W7.drew.drew (R1.heap.size+1) 24 5 (.slice (some ⟨rg,ro,none⟩) n0 c6) n0 (List.flatten vals):=HO7.out.drew.drew
   obtain⟨V8,hV8⟩:∃ V8,W7.drew.drew=V8:=⟨_,rfl⟩
   rw[hV8]at hb88 hO8;have HB8:=kH hb88;have hO9:=hO8.put5 a han (.int .i64 kb') (.string xb) (.int .i64 ab) (.int .i64 zb) (.slice Ab nb' cb);have hO10:=hO9.put5 b hbn (.int .i64 ka) (.string xa) (.int .i64 aa) (.int .i64 za) (.slice Aa na ca);have hlen:(List.flatten vals).length=n0 * 5:=HVL.out.1
   have hlp:∀ q,q < 5→∃ v,(put5 V8 rg ro a (.int .i64 kb') (.string xb) (.int .i64 ab) (.int .i64 zb) (.slice Ab nb' cb)).cell? ⟨rg,ro+b * 5+q,none⟩=some v:=fun q hq=>by
    have hlt:b * 5+q < (putL (List.flatten vals) a (.int .i64 kb') (.string xb) (.int .i64 ab) (.int .i64 zb) (.slice Ab nb' cb)).length:=by
     unfold putL;simp only[List.length_set];omega
    obtain⟨g2,o2,cap2,hv2,-,-,-,-,hrc2⟩:=hO9.form (by omega);simp only[Value.slice.injEq,Option.some.injEq,Addr.mk.injEq,and_true,true_and]at hv2;obtain⟨⟨rfl,rfl⟩,-⟩:=hv2;refine⟨(putL (List.flatten vals) a (.int .i64 kb') (.string xb) (.int .i64 ab) (.int .i64 zb) (.slice Ab nb' cb))[b * 5+q]'hlt,?_⟩
    ·have:=hrc2 (b * 5+q) _ (List.getElem?_eq_getElem hlt)
     rw[show ro+(b * 5+q)=ro+b * 5+q by omega]at this;exact this
   have hfz8:∀ o,V8.frozen? ⟨rg,o,none⟩=false:=fun o=>by
    obtain⟨cur,hc⟩:=hO8.obj rg rfl;simp only[World.frozen?,hc];rfl
   have hfz9:∀ o,(put5 V8 rg ro a (.int .i64 kb') (.string xb) (.int .i64 ab) (.int .i64 zb) (.slice Ab nb' cb)).frozen? ⟨rg,o,none⟩=false:=fun o=>by
    obtain⟨cur,hc⟩:=hO9.obj rg rfl;simp only[World.frozen?,hc];rfl
   obtain⟨y0,e0⟩:=hlp 0 (by omega);obtain⟨y1,e1⟩:=hlp 1 (by omega);obtain⟨y2,e2⟩:=hlp 2 (by omega);obtain⟨y3,e3⟩:=hlp 3 (by omega);obtain⟨y4,e4⟩:=hlp 4 (by omega);rw[Nat.add_zero]at e0;have hz9:Since (fun x=>x=rg) V8 (put5 V8 rg ro a (.int .i64 kb') (.string xb) (.int .i64 ab) (.int .i64 zb) (.slice Ab nb' cb)):=put5_since;have hrl9:rg < (put5 V8 rg ro a (.int .i64 kb') (.string xb) (.int .i64 ab) (.int .i64 zb) (.slice Ab nb' cb)).heap.size:=Nat.lt_of_lt_of_le (Nat.lt_of_lt_of_le hrl7 hb88.size) hz9.size
   obtain⟨Z1,hZ1⟩:∃ Z1,put5 V8 rg ro a (.int .i64 kb') (.string xb) (.int .i64 ab) (.int .i64 zb) (.slice Ab nb' cb)=Z1:=⟨_,rfl⟩
   rw[hZ1]at e0 e1 e2 e3 e4 hO10 hfz9 hz9 hrl9;have hz10:Since (fun x=>x=rg) Z1 (put5 Z1 rg ro b (.int .i64 ka) (.string xa) (.int .i64 aa) (.int .i64 za) (.slice Aa na ca)):=put5_since;obtain⟨-,hT0,hSS⟩:=hKS V8 hb88
   have hmr:mb≠rg:=by rw[← HMBE.out];omega
   have hT1:Z1.cell? ⟨mb,4,none⟩=some (.slice (some ⟨rg,ro,none⟩) n0 c6):=(since_cell hz9 (p:=⟨mb,4,none⟩) (Nat.lt_of_lt_of_le l7 hb88.size) hmr).trans hT0;have hT2:(put5 Z1 rg ro b (.int .i64 ka) (.string xa) (.int .i64 aa) (.int .i64 za) (.slice Aa na ca)).cell? ⟨mb,4,none⟩=some (.slice (some ⟨rg,ro,none⟩) n0 c6):=(since_cell hz10 (p:=⟨mb,4,none⟩) (Nat.lt_of_lt_of_le (Nat.lt_of_lt_of_le l7 hb88.size) hz9.size) hmr).trans hT1;have HO10:=kH hO10;have HZS:Hid (Since (fun x=>x=rg) V8 (put5 Z1 rg ro b (.int .i64 ka) (.string xa) (.int .i64 aa) (.int .i64 za) (.slice Aa na ca))):=kH (hz9.trans hz10);have HTA:Hid (TreeAt w1 w1.heap.size ta [.int .i64 ka,.string xa,.int .i64 aa,.int .i64 za,.slice Aa na ca]∧TreeAt w1 w1.heap.size tb [.int .i64 kb',.string xb,.int .i64 ab,.int .i64 zb,.slice Ab nb' cb]∧t.kids[a]? = some ta∧t.kids[b]? = some tb):=kH ⟨hTa,hTb,hta,htb⟩;have hf0:=hfz8 (ro+a * 5);have hf1:=hfz8 (ro+a * 5+1);have hf2:=hfz8 (ro+a * 5+2);have hf3:=hfz8 (ro+a * 5+3);have hf4:=hfz8 (ro+a * 5+4);have hg0:=hfz9 (ro+b * 5);have hg1:=hfz9 (ro+b * 5+1);have hg2:=hfz9 (ro+b * 5+2);have hg3:=hfz9 (ro+b * 5+3);have hg4:=hfz9 (ro+b * 5+4);obtain⟨x0',x1',x2',x3',x4',-⟩:=id hSS;have HZ1:Hid (put5 V8 rg ro a (.int .i64 kb') (.string xb) (.int .i64 ab) (.int .i64 zb) (.slice Ab nb' cb)=Z1):=kH hZ1
   have hani:(a:Int) < (n0:Int):=by omega
   have hbni:(b:Int) < (n0:Int):=by omega
   clear hta htb hTa hTb hfa hfb hka hxa haa hza hna hkb' hxb hab hzb hnb' hrow hKS hb88 hO8 hO9 hO10 hlp hfz8 hfz9 hz9 hz10 hZ1 hrc7 hlen hra hrb' hwa hwb hwa2 hwb2
   go_wp2_with fail
   refine wp_region_HQ (fun w'=>w'.cell? ⟨rg,ro+a * 5,none⟩=some (.int .i64 ka)∧w'.cell? ⟨rg,ro+a * 5+1,none⟩=some (.string xa)∧w'.cell? ⟨rg,ro+a * 5+2,none⟩=some (.int .i64 aa)∧w'.cell? ⟨rg,ro+a * 5+3,none⟩=some (.int .i64 za)∧w'.cell? ⟨rg,ro+a * 5+4,none⟩=some (.slice Aa na ca)∧w'.cell? ⟨rg,ro+b * 5,none⟩=some (.int .i64 kb')∧w'.cell? ⟨rg,ro+b * 5+1,none⟩=some (.string xb)∧w'.cell? ⟨rg,ro+b * 5+2,none⟩=some (.int .i64 ab)∧w'.cell? ⟨rg,ro+b * 5+3,none⟩=some (.int .i64 zb)∧w'.cell? ⟨rg,ro+b * 5+4,none⟩=some (.slice Ab nb' cb)) (fun w'=>w'.cell? ⟨mb,4,none⟩=some (.slice (some ⟨rg,ro,none⟩) n0 c6)) [0,1,2,3,4,5,6,7,8,9,11,12,13,14,17,18,19] [(0,0),(1,0),(2,0),(3,0),(4,0),(5,0),(6,0),(7,0),(8,0),(9,0),(11,0),(12,0),(13,0),(14,0),(10,1),(15,1),(16,1),(17,2),(18,2),(19,2)] (by kernel_rfl) (by kernel_rfl) rfl (by kernel_rfl) ?_;rw[hV8];refine wpHQ_softT (by simp only[List.getElem?_toArray,List.getElem?_cons_zero];rfl) (by rfl) hT0 (by intro w' hs1;go_simp;rfl) ?_
   iterate 13(simp only[Act.put,sA,sZ,sC];refine wpHQ_softT (by simp only[List.getElem?_toArray,List.getElem?_cons_succ,List.getElem?_cons_zero];rfl) (by rfl) hT0 (by intro w' hs1;go_simp;rfl) ?_)
   iterate 2(simp only[Act.put,sA,sZ,sC];refine wpHQ_softS (by simp only[List.getElem?_toArray,List.getElem?_cons_succ,List.getElem?_cons_zero];rfl) (by rfl) ⟨hT0,hSS⟩ (by intro w' hSw;obtain⟨hs1,hs2,hs3,hs4,hs5,hs6,hs7,hs8,hs9,hs10,hs11⟩:=hSw;go_simp;rfl) ?_)
   simp only[Act.put,sA,sZ,sC];refine wpHQ_softS (by simp only[List.getElem?_toArray,List.getElem?_cons_succ,List.getElem?_cons_zero];rfl) (by rfl) ⟨hT0,hSS⟩ (by intro w' hSw;go_simp;rfl) ?_;simp only[Act.put,sA,sZ,sC];refine wpHQ_skip (w':=put5 V8 rg ro a (.int .i64 kb') (.string xb) (.int .i64 ab) (.int .i64 zb) (.slice Ab nb' cb)) (by simp only[List.getElem?_toArray,List.getElem?_cons_succ,List.getElem?_cons_zero];rfl) (by rfl) (by go_simp;rfl) (by rw[HZ1.out];exact hT1) (fun h=>by cases h) ?_;rw[HZ1.out];simp only[Act.put];refine wpHQ_run (w':=Z1) (by simp only[List.getElem?_toArray,List.getElem?_cons_succ,List.getElem?_cons_zero];rfl) (by rfl) (by go_simp;rfl) hT1 (fun h=>by cases h) ?_;simp only[Act.put,sA,sZ,sC];refine wpHQ_skip (w':=put5 Z1 rg ro b (.int .i64 ka) (.string xa) (.int .i64 aa) (.int .i64 za) (.slice Aa na ca)) (by simp only[List.getElem?_toArray,List.getElem?_cons_succ,List.getElem?_cons_zero];rfl) (by rfl) (by go_simp;rfl) hT2 (fun h=>by cases h) ?_;simp only[Act.put];refine wpHQ_nil ?_
   obtain⟨Z,hZ⟩:∃ Z,put5 Z1 rg ro b (.int .i64 ka) (.string xa) (.int .i64 aa) (.int .i64 za) (.slice Aa na ca)=Z:=⟨_,rfl⟩
   have hzs:=HZS.out;have hoz:=HO10.out;rw[hZ]at hzs hoz ⊢;have hbZ:Below R1.heap.size R1 Z:=(HB7.out.trans (HB8.out.mono HB7.out.size)).trans (hzs.toBelow (B:=R1.heap.size) (Nat.le_trans HB7.out.size HB8.out.size) (fun k hk=>by rw[hk];omega));have HBZ:Hid (Below w.heap.size w Z):=kH (HBR.out.trans (hbZ.mono HBR.out.size));have hbN:Below w1.heap.size w1 Z:=HBN.out.trans (hbZ.mono HBN.out.size);have hMZ:Blk Z mb 24 #[.int .i64 k0,.string x0,.int .i64 a0,.int .i64 z0,.slice (some ⟨rg,ro,none⟩) n0 c6]:=(HM7.out.below HB8.out HM7.out.lt).since hzs hmr;have hRZ:Blk Z rb 30 #[.slice dA nd dc,.slice uA nu uc]:=HRR.out.below hbZ HRR.out.lt;obtain⟨hKZ,hcz⟩:=swap_kids HVA.out hbN hbN.size HVL.out.1 han hbn HTA.out.1 HTA.out.2.1 hoz;have hperm:=perm_swap t.kids a b ta tb HTA.out.2.2.1 HTA.out.2.2.2
   obtain⟨ks',hks'⟩:∃ l,(t.kids.set a tb).set b ta=l:=⟨_,rfl⟩
   rw[hks']at hperm hKZ
   have hlen':ks'.length=n0:=by rw[hperm.length_eq];exact HFV.out.2.1
   have hcn':countM (.node k0 x0 a0 z0 ks')≤1000000:=by
    have e1:countM (.node k0 x0 a0 z0 ks')=1+countsM ks':=countM_kids _;have e2:=countM_kids t;have e3:=HCN.out;rw[e1,countsM_perm hperm,← e2];exact e3
   have hnv':nodeV (.node k0 x0 a0 z0 ks') (some ⟨rg,ro,none⟩) c6 = .agg #[.int .i64 k0,.string x0,.int .i64 a0,.int .i64 z0,.slice (some ⟨rg,ro,none⟩) n0 c6]:=by rw[← hlen'];rfl
   have hres':=Resolve_any (.node k0 x0 a0 z0 ks') (some ⟨rg,ro,none⟩) c6 Z hcn' (by show ks'.length≤c6;omega) hKZ;rw[hnv']at hres';have HRES':=kH hres'
   have HPL:Hid (validM (.node k0 x0 a0 z0 ks')=true∧(resolveM (.node k0 x0 a0 z0 ks')).probs.length=0∧(resolveM (.node k0 x0 a0 z0 ks')).ds.length=nd):=by
    obtain⟨hk2,htop⟩:=topK_valid HVAL.out;obtain⟨hft,-,-⟩:=HFV.out
    have hk0:k0=2:=by rw[hft]at hk2;exact hk2
    subst hk0;have hv:=HVAL.out;have hp:=HPR.out;have hn:=HND.out;rw[hft]at hv hp hn;have hp':=List.eq_nil_of_length_eq_zero hp.symm;obtain⟨g1,g2⟩:=order_clean (x':=x0) (a':=a0) (e':=z0) hperm.symm htop hp';exact kH ⟨valid_perm hperm.symm rfl hv,by rw[g1];rfl,g2.trans hn⟩
   have HBN2:=kH hbN;have HMZ:=kH hMZ;have HRZ:=kH hRZ;have m0:=hMZ.cell 0;have m1:=hMZ.cell 1;have m2:=hMZ.cell 2;have m3:=hMZ.cell 3;have m4:=hMZ.cell 4;have lm:=hMZ.lt;clear hzs hoz hbZ hbN hMZ hRZ hKZ hcz hperm hks' hlen' hcn' hnv' hres' hZ hT0 hT1 hT2 hSS e0 e1 e2 e3 e4 x0' x1' x2' x3' x4' hf0 hf1 hf2 hf3 hf4 hg0 hg1 hg2 hg3 hg4
   go_wp2_with fail
   refine HRES'.out.mono ?_;rintro e3 w3 h3
   rcases h3 with ⟨hbad,-,-⟩ | ⟨-,E',V',Aw',nw',cw',rfl,-,-,hnw',-,hb3⟩
   ·exact absurd (hbad.symm.trans HPL.out.1) (by simp)
   ·rw[HPL.out.2.1]at hnw'
    subst hnw';rw[HPL.out.2.2]
    obtain⟨nu',hnu'⟩:∃ q,(resolveM (.node k0 x0 a0 z0 ks')).uses.length=q:=⟨_,rfl⟩
    obtain⟨dA',hdA'⟩:∃ q,V'.dA=q:=⟨_,rfl⟩
    obtain⟨dc',hdc'⟩:∃ q,V'.dc=q:=⟨_,rfl⟩
    obtain⟨uA',huA'⟩:∃ q,E'.uA=q:=⟨_,rfl⟩
    obtain⟨uc',huc'⟩:∃ q,E'.uc=q:=⟨_,rfl⟩
    rw[hnu',hdA',hdc',huA',huc'];have hR3:=HRZ.out.below hb3 HRZ.out.lt;have r0:=hR3.cell 0;have r1:=hR3.cell 1;have lr:=hR3.lt;have HB3:Hid (Below w.heap.size w w3):=kH (HBZ.out.trans (hb3.mono HBZ.out.size));clear hb3 hR3 m0 m1 m2 m3 m4 lm hnu' hdA' hdc' huA' huc'
    go_wp2_with fail
    refine(HAWK.out _).mono ?_;rintro e4 w4 ⟨rfl,hb4⟩;have HB4:Hid (Below w.heap.size w w4):=kH (HB3.out.trans (((below_alloc w3 _).trans (hb4.mono (by simp))).mono HB3.out.size));clear hb4
    go_wp2_with fail
    go_ret
    exact⟨rfl,HB4.out⟩
  ·cases ok with
   | false =>
    go_wp2_with (rw[hR1])
    refine(HAWK.out _).mono ?_;rintro e3 w3 ⟨rfl,hb3⟩;have HB3:Hid (Below w.heap.size w w3):=kH (HBR.out.trans (hb3.mono HBR.out.size));clear hb3
    go_wp2_with fail
    go_ret
    exact⟨rfl,HB3.out⟩
   | true =>
    by_cases h1:nw=0
    ·subst h1
     have hlt2:(n0:Int) < 2:=by
      have:¬ 2≤n0:=fun h=>hgo ⟨rfl,rfl,h⟩
      omega
     go_wp2_with (rw[hR1])
     refine(HAWK.out _).mono ?_;rintro e3 w3 ⟨rfl,hb3⟩;have HB3:Hid (Below w.heap.size w w3):=kH (HBR.out.trans (hb3.mono HBR.out.size));clear hb3
     go_wp2_with fail
     go_ret
     exact⟨rfl,HB3.out⟩
    ·have hpos:(0:Int) < (nw:Int):=by omega
     go_wp2_with (rw[hR1])
     refine(HAWK.out _).mono ?_;rintro e3 w3 ⟨rfl,hb3⟩;have HB3:Hid (Below w.heap.size w w3):=kH (HBR.out.trans (hb3.mono HBR.out.size));clear hb3
     go_wp2_with fail
     go_ret
     exact⟨rfl,HB3.out⟩
end Go.Proofs.YtoepemlnlpamlaaGreat
namespace Go.Proofs.YtoepemlnlpamlaaGreat
set_option maxRecDepth 100000
set_option maxHeartbeats 4000000
open Go.ChangeShapes Go.WideShapes Go.ChangeAt Go.RowKit
theorem Tryz.own:ownKnob Tryz.prog.godebug=none:=by kernel_rfl
theorem Tryz.laidOut:laidOutB Tryz.prog=true:=by kernel_rfl
section
variable {H:Type} {enc:TypeId × Value→H} {P:Program}
theorem trodAll_stays (hl:laidOutB P=true) {W W':World} (hb:Below W.heap.size W W') (sp:Nat→Bool):∀ {ts:List TypeId} {vs:List Value} {ds:List (DataW H)} {ps:List MemPlace},
 ts.all (fun t=>P.readableRec t && decide (t < P.types.size))=true→DataW.TrodAll enc P W 0 (fun _=>true) true ts vs ds ps→(∀ x ∈ ps,x.block < W.heap.size)→(∀ x ∈ ps,sp x.block=true) →
 DataW.TrodAll enc P W' 0 sp true ts vs ds ps:=by
 intro ts
 induction ts with
 | nil =>
  intro vs ds ps _ h _ _
  cases vs <;> cases ds <;> simp[DataW.TrodAll]at h ⊢
  exact h
 | cons t ts ih =>
  intro vs ds ps hr h hlt hsp;obtain⟨v,vs',d,ds',p,q,rfl,rfl,rfl,hd,hrest⟩:=trodAll_cons h;rw[List.all_cons,Bool.and_eq_true,Bool.and_eq_true]at hr;refine⟨p,q,?_,ih hr.2 hrest (fun x hx=>hlt x (by simp[hx])) (fun x hx=>hsp x (by simp[hx])),rfl⟩;exact WideElems.Trod_stays hl hr.1.1 (of_decide_eq_true hr.1.2) hd (fun x hx=>hb.same (hlt x (by simp[hx]))) (fun x hx=>hsp x (by simp[hx]))
theorem law_post (hl:laidOutB P=true) {f:Func} {s:ChangeSpec} {apart fresh handsOn again:Bool} {W W':World} {args:Array Value} {ds gs:List (DataW H)} {before:List MemPlace} {tb:TypeId}
 (hW:DataW.Whole enc P f.params.toList s.vars apart W args.toList ds gs before) (hv:s.vars = [])
 (hread:f.params.toList.all (fun t=>P.readableRec t && decide (t < P.types.size))=true)
 (hfn:s.fn H (ds ++ gs) = { results:=[.lit (.bool true)],args:=ds }) (hr:f.resultTypes = #[tb]) (htb:P.underlying tb=some .bool) (hb:Below W.heap.size W W') :
 s.post enc P f apart fresh handsOn again W args (.bool true) W':=by
 have hlt:∀ p ∈ before,p.block < W.heap.size:=fun p hp=>hW.lt p hp
 have hW0:=hW;obtain⟨p,q,hA,hV,hpq,hz,hn⟩:=hW;rw[hv]at hV;obtain⟨hgs,hq⟩:=trodVars_none hV;subst hq;rw[List.append_nil]at hpq;subst hpq
 have hres:∀ (b:Nat) (sp:Nat→Bool) (hd:Bool),DataW.TrodAll enc P W' b sp hd f.resultTypes.toList ((Value.bool true).resultList f.resultTypes.size) (s.fn H (ds ++ gs)).results []:=fun b sp hd=>by
  rw[hfn,hr];exact trodAll_mk1 (shut_bool htb true)
 have hargs:∀ sp:Nat→Bool,(∀ x ∈ before,sp x.block=true)→DataW.TrodAll enc P W' 0 sp true f.params.toList args.toList (s.fn H (ds ++ gs)).args before:=fun sp hsp=>by
  rw[hfn];exact trodAll_stays hl hb sp hread hA hlt hsp
 have hvars:∀ sp:Nat→Bool,DataW.TrodVars enc P W' sp s.vars (s.fn H (ds ++ gs)).vars []:=fun sp=>by
  rw[hfn,hv];rfl
 have hold:∀ x ∈ before,(fun b=>decide (b < W.heap.size)) x.block=true:=fun x hx=>by simpa using hlt x hx
 refine⟨ds,gs,before,[],before,[],hW0,hres _ _ _,hargs _ hold,hvars _,World.keptBut_mono (fun x hx=>⟨hx,Or.inr (by simpa using hx)⟩) (hb.frame (· ∈ before)),fun _=>?_⟩;refine⟨ok_one hr rfl (okWide_bool_mk htb true),_,_,([] ++ before) ++ [],⟨[] ++ before,[],trodAll_append (hargs _ (fun _ _=>rfl)) (hres _ _ _),hvars _,rfl,?_,?_⟩,?_⟩
 ·intro b off hp
  have hin:MemPlace.cell b off ∈ before:=by simpa using hp
  rw[hb.frozen (hlt _ hin)];exact hz b off hin
 ·intro ha
  simpa using hn ha
 ·intro x hx _
  simpa using hx
end
end Go.Proofs.YtoepemlnlpamlaaGreat
namespace Go.Proofs.YtoepemlnlpamlaaGreat
set_option maxRecDepth 100000
set_option maxHeartbeats 4000000
open Go.ChangeShapes Go.WideShapes Go.ChangeAt Go.RowKit Go.Joins Go.ChangeMaps
theorem open_byte {H:Type} {enc:TypeId × Value→H} {P:Program} {w:World} {base:Nat} {spare:Nat→Bool} {held:Bool} {r:Reach} {b0:Nat} {t:TypeId} {v:Value} {d:DataW H} {ps:List MemPlace} (ht:P.underlying t=some (.int .u8)) (hval:Value.okWide P w r b0 t v) (hd:DataW.Trod enc P w base spare held t v d ps) :
 ∃ n:Nat,v = .int .u8 (n:Int)∧n < 256∧ps = []:=by
 obtain⟨n,rfl,-,rfl,hw⟩:=open_int ht hval hd;simp only[Lit.wf,Bool.and_eq_true,decide_eq_true_eq]at hw;have h1:IntKind.u8.min=0:=rfl;have h2:IntKind.u8.max=255:=rfl;rw[h1,h2]at hw;exact⟨n.toNat,by rw[Int.toNat_of_nonneg hw.1],by omega,rfl⟩
theorem order_lifted (os:Os) (started:os.Started) (H:Type) (enc:TypeId × Value→H) :
 ReturnsInHanded {} Tryz.checked os 6 .any (Rows.namesOrderSpec.pre6 enc Tryz.prog Tryz.f6 Rows.namesOrderRow.domain false) (Rows.namesOrderSpec.post enc Tryz.prog Tryz.f6 false true false false):=by
 refine returnsInHanded_of_change (C:=Tryz.checked) Tryz.own started (by kernel_rfl) Tryz.func6
  (ChangeSpec.witness6 (enc:=enc) (C:=Tryz.checked) false ⟨#[],#[.string ⟨#[]⟩,.int .u8 0,.int .u8 0],[]⟩ 8 (by kernel_rfl) (by kernel_rfl) (by kernel_rfl) (by kernel_rfl)) ?_
 intro W base args ds gs before hval0 hW hcnd _;have hval:∀ (j:Nat) t v,Tryz.f6.params[j]? = some t→args[j]? = some v→Value.okWide Tryz.prog W .any base t v:=hval0;have hW':=hW;obtain⟨p,q,hA0,hV,rfl,hfz,hnd⟩:=hW;have hA:DataW.TrodAll enc Tryz.prog W 0 (fun _=>true) true Tryz.f6.params.toList args.toList ds p:=hA0;rw[Tryz.params6]at hA hval;obtain⟨v0,v1,v2,d0,d1,d2,p0,p1,p2,rfl,rfl,rfl,h0,h1,h2⟩:=trodAll_three hA;obtain⟨rfl,rfl⟩:=trodVars_none hV;obtain⟨s,rfl,-,rfl,-⟩:=open_string Tryz.underlying9 (hval 0 9 v0 rfl rfl) h0;obtain⟨ia,rfl,ha,rfl⟩:=open_byte Tryz.underlying5 (hval 1 5 v1 rfl rfl) h1;obtain⟨ib,rfl,hb,rfl⟩:=open_byte Tryz.underlying5 (hval 2 5 v2 rfl rfl) h2
 refine(lawOrder_any s ia ib ha hb W).mono fun e W' ⟨he,hb⟩=>?_
 subst he;exact⟨_,rfl,law_post Tryz.laidOut hW' rfl (by kernel_rfl) rfl (by kernel_rfl) Tryz.underlying4 hb⟩
theorem namesOrder_holds:Rows.NamesOrderSaid :=
 OpenClaim.holds_of_wide 6 Tryz.f6 rfl rfl rfl rfl rfl rfl rfl ⟨rfl,rfl,rfl,rfl,rfl⟩ rfl rfl rfl rfl rfl (by kernel_rfl) Tryz.func6 (by kernel_rfl)
  (of_decide_eq_true (by kernel_rfl)) (by unfold Func.isWrapper;first | (rw[if_pos (by decide +kernel)];kernel_rfl) | (rw[if_neg (by decide +kernel)];exact⟨rfl,rfl⟩))
  (fun os started H enc _=>order_lifted os started H enc)
end Go.Proofs.YtoepemlnlpamlaaGreat
