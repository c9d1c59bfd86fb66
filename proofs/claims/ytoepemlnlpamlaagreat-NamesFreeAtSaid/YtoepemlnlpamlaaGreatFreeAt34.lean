/- The law NamesFreeAt holds: for every text and every number the law returns true, and its arguments read as before. No condition. Part 34: Ord4 VOk Res1. -/
import Derived.Test.YtoepemlnlpamlaaGreatFreeAt21
import Derived.Test.YtoepemlnlpamlaaGreatFreeAt27
import Derived.Test.YtoepemlnlpamlaaGreatFreeAt28
import Derived.Test.YtoepemlnlpamlaaGreatFreeAt33
namespace Go.Proofs.YtoepemlnlpamlaaGreat
set_option maxRecDepth 100000
set_option maxHeartbeats 4000000
theorem kidsFit_mem (sh:ShM):∀ (ts:List Tree) (i:Nat),kidsFit sh i ts=true→∀ c ∈ ts,∃ p,(sh.list=some p∨p ∈ sh.kids)∧p c.kind=true
 | [],_,_,c,hc=>by cases hc
 | t :: ts,i,h,c,hc=>by
  rw[kidsFit,Bool.and_eq_true]at h
  rcases List.mem_cons.1 hc with rfl | hc
  ·have h1:=h.1
   unfold kidFit at h1
   cases hl:sh.list with
   | some p=>rw[hl]at h1;exact⟨p,.inl rfl,h1⟩
   | none =>
    rw[hl]at h1
    cases hp:sh.kids[i]? with
    | none=>rw[hp]at h1;cases h1
    | some p=>rw[hp]at h1;exact⟨p,.inr (List.mem_of_getElem? hp),h1⟩
  ·exact kidsFit_mem sh ts (i+1) h.2 c hc
def Inner (p:Int→Bool):Prop:=∀ k,p k=true→k≠2∧k≠3∧k≠4∧k≠5
theorem inner_type:Inner isTypeM:=fun k h=>by unfold isTypeM at h;simp only[Bool.or_eq_true,decide_eq_true_eq]at h;omega
theorem inner_stmt:Inner isStmtM:=fun k h=>by unfold isStmtM at h;simp only[Bool.and_eq_true,decide_eq_true_eq]at h;omega
theorem inner_expr:Inner isExprM:=fun k h=>by unfold isExprM at h;simp only[Bool.and_eq_true,decide_eq_true_eq]at h;omega
theorem inner_place:Inner isPlaceM:=fun k h=>by unfold isPlaceM at h;simp only[Bool.or_eq_true,decide_eq_true_eq]at h;omega
theorem inner_opt {p:Int→Bool} (h:Inner p):Inner (optP p):=fun k hk=>by
 unfold optP at hk;simp only[Bool.or_eq_true,decide_eq_true_eq]at hk
 rcases hk with hk | hk
 ·omega
 ·exact h k hk
theorem inner_one {l:List Int} (h:∀ y ∈ l,y≠2∧y≠3∧y≠4∧y≠5):Inner (oneP l):=fun k hk=>by
 unfold oneP at hk;rw[List.any_eq_true]at hk;obtain⟨y,hy,hk⟩:=hk;rw[decide_eq_true_eq]at hk;subst hk;exact h _ hy
theorem shape_inner {k:Int} {sh:ShM} (h:shapeM k=some sh) (h2:k≠2) (h3:k≠3):(∀ p,sh.list=some p→Inner p)∧∀ p ∈ sh.kids,Inner p:=by
 cases k with
 | negSucc n=>cases h
 | ofNat n =>
  have h5:shapeN n=some sh:=h
  have n2:n≠2:=fun e=>h2 (by rw[e];rfl)
  have n3:n≠3:=fun e=>h3 (by rw[e];rfl)
  clear h h2 h3;unfold shapeN at h5
  split at h5 <;> first | (cases h5;done) | (exact absurd rfl n2) | (exact absurd rfl n3) | skip
  all_goals
   cases h5
   refine⟨?_,?_⟩
   ·intro p hp
    first
     | (cases hp;done)
     | (cases hp;first | exact inner_stmt | exact inner_expr | exact inner_one (by decide))
   ·intro p hp
    first
     | (cases hp;done)
     | (simp only[List.mem_cons,List.not_mem_nil,or_false]at hp
        first
         | (rcases hp with rfl | rfl | rfl <;> first | exact inner_expr | exact inner_place | exact inner_one (by decide) | exact inner_opt inner_type | exact inner_opt inner_expr | exact inner_opt (inner_one (by decide)))
         | (rcases hp with rfl | rfl <;> first | exact inner_expr | exact inner_place | exact inner_one (by decide) | exact inner_opt inner_type | exact inner_opt inner_expr | exact inner_opt (inner_one (by decide)))
         | (subst hp;first | exact inner_expr | exact inner_place | exact inner_one (by decide) | exact inner_opt inner_type | exact inner_opt inner_expr | exact inner_opt (inner_one (by decide))))
theorem shapedN_some {t:Tree} (h:shapedN t=true):∃ sh,shapeM t.kind=some sh∧fitsM sh t=true:=by
 unfold shapedN at h
 cases hs:shapeM t.kind with
 | none=>rw[hs]at h;cases h
 | some sh =>
  rw[hs]at h;rw[Bool.and_eq_true]at h;exact⟨sh,rfl,h.1⟩
theorem fits_parts {sh:ShM} {t:Tree} (h:fitsM sh t=true):sh.text t.text=true∧cntFit sh t.kids.length=true∧kidsFit sh 0 t.kids=true:=by
 unfold fitsM at h;rw[Bool.and_eq_true,Bool.and_eq_true]at h;exact⟨h.1.1,h.1.2,h.2⟩
theorem shaped_node (t:Tree):shapedM t=(shapedN t && (nodesL t.kids).all shapedN):=by
 unfold shapedM;rw[nodesM_eq,List.all_cons]
mutual
theorem inT_shaped:∀ (t:Tree),shapedM t=true→(t.kind≠2∧t.kind≠3∧t.kind≠4∧t.kind≠5)→InT t=true
 | .node k x a e kids,h,hk=>by
  rw[shaped_node,Bool.and_eq_true]at h;obtain⟨sh,hs,hf⟩:=shapedN_some h.1;obtain⟨-,hc,hkf⟩:=fits_parts hf;have hk':k≠2∧k≠3∧k≠4∧k≠5:=hk;have hs':shapeM k=some sh:=hs;obtain⟨hi1,hi2⟩:=shape_inner hs' hk'.1 hk'.2.1;rw[InT];simp only[Bool.and_eq_true,Bool.or_eq_true,decide_eq_true_eq];refine⟨⟨⟨hk',?_⟩,?_⟩,inTs_shaped kids h.2 fun c hc=>?_⟩
  ·by_cases h12:k=12
   ·subst h12
    right
    have:some _=some sh:=hs'
    cases this
    simpa [cntFit,Tree.kids] using hc
   ·exact .inl h12
  ·by_cases h16:k=16
   ·subst h16
    right
    have:some _=some sh:=hs'
    cases this
    simpa [cntFit,Tree.kids] using hc
   ·exact .inl h16
  ·obtain⟨p,hp,hpk⟩:=kidsFit_mem sh kids 0 hkf c hc
   rcases hp with hp | hp
   ·exact hi1 p hp _ hpk
   ·exact hi2 p hp _ hpk
theorem inTs_shaped:∀ (ts:List Tree),(nodesL ts).all shapedN=true→(∀ c ∈ ts,c.kind≠2∧c.kind≠3∧c.kind≠4∧c.kind≠5)→InTs ts=true
 | [],_,_=>by rw[InTs]
 | t :: ts,h,hc=>by
  rw[nodesL,List.all_append,Bool.and_eq_true]at h;rw[InTs,Bool.and_eq_true];exact⟨inT_shaped t h.1 (hc t (by simp)),inTs_shaped ts h.2 fun c hx=>hc c (by simp[hx])⟩
end
theorem nodesL_all {ts:List Tree} (h:(nodesL ts).all shapedN=true):∀ c ∈ ts,shapedM c=true:=by
 induction ts with
 | nil=>intro c hc;cases hc
 | cons t ts ih =>
  rw[nodesL,List.all_append,Bool.and_eq_true]at h;intro c hc
  rcases List.mem_cons.1 hc with rfl | hc
  ·exact h.1
  ·exact ih h.2 c hc
theorem shaped_kids {t:Tree} (h:shapedM t=true):∀ c ∈ t.kids,shapedM c=true:=by
 rw[shaped_node,Bool.and_eq_true]at h;exact nodesL_all h.2
theorem topK_shaped (t:Tree) (h:shapedM t=true) (hk:t.kind=3∨t.kind=5):TopK t=true:=by
 have hkids:=shaped_kids h;have hn:=h;rw[shaped_node,Bool.and_eq_true]at hn;obtain⟨sh,hs,hf⟩:=shapedN_some hn.1;obtain⟨-,hc,hkf⟩:=fits_parts hf;have hmem:=kidsFit_mem sh t.kids 0 hkf;obtain⟨k,x,a,e,kids⟩:=t;rw[TopK,Bool.or_eq_true,Bool.and_eq_true,Bool.and_eq_true,Bool.and_eq_true,decide_eq_true_eq,decide_eq_true_eq,decide_eq_true_eq]
 rcases hk with hk | hk
 ·left
  have hk':k=3:=hk;subst hk';have he:some _=some sh:=hs
  cases he
  refine⟨rfl,List.all_eq_true.2 fun f hf=>?_⟩;rw[Bool.and_eq_true,decide_eq_true_eq]
  have hf4:f.kind=4:=by
   obtain⟨p,hp,hpk⟩:=hmem f hf
   rcases hp with hp | hp
   ·cases hp
    simpa [oneP] using hpk
   ·cases hp
  refine⟨hf4,?_⟩;have hsf:=hkids f hf;have hsk:=shaped_kids hsf;rw[shaped_node,Bool.and_eq_true]at hsf;obtain⟨sh,hs,hff⟩:=shapedN_some hsf.1;obtain⟨-,hc,hkf⟩:=fits_parts hff
  refine inTs_shaped _ hsf.2 fun c hc=>?_
  rw[hf4]at hs;obtain⟨h1,h2⟩:=shape_inner hs (by decide) (by decide);obtain⟨p,hp,hpk⟩:=kidsFit_mem sh f.kids 0 hkf c hc
  rcases hp with hp | hp
  ·exact h1 p hp _ hpk
  ·exact h2 p hp _ hpk
 ·right
  have hk':k=5:=hk;subst hk';have he:some _=some sh:=hs;obtain⟨h1,h2⟩:=shape_inner hs (show (5:Int)≠2 by decide) (show (5:Int)≠3 by decide)
  cases he
  refine⟨⟨rfl,by simpa [cntFit,Tree.kids] using hc⟩,inTs_shaped _ hn.2 fun c hc=>?_⟩;obtain⟨p,hp,hpk⟩:=hmem c hc
  rcases hp with hp | hp
  ·exact h1 p hp _ hpk
  ·exact h2 p hp _ hpk
theorem topK_valid {t:Tree} (h:validM t=true):t.kind=2∧∀ k ∈ t.kids,TopK k=true:=by
 unfold validM at h;rw[Bool.and_eq_true,decide_eq_true_eq]at h;refine⟨h.1,fun k hk=>?_⟩;have hsh:=shaped_kids h.2 k hk;have hn:=h.2;rw[shaped_node,Bool.and_eq_true]at hn;obtain⟨sh,hs,hf⟩:=shapedN_some hn.1;obtain⟨-,hc,hkf⟩:=fits_parts hf;obtain⟨p,hp,hpk⟩:=kidsFit_mem sh t.kids 0 hkf k hk;rw[h.1]at hs;have he:some _=some sh:=hs
 cases he
 rcases hp with hp | hp
 ·cases hp
  have:k.kind=3∨k.kind=5:=by simpa [oneP] using hpk
  exact topK_shaped k hsh this
 ·cases hp
end Go.Proofs.YtoepemlnlpamlaaGreat
namespace Go.Proofs.YtoepemlnlpamlaaGreat
set_option maxRecDepth 100000
set_option maxHeartbeats 4000000
theorem VOks_of {nl:Bool}:∀ {ts:List Tree},(∀ t ∈ ts,VOk nl t=true)→VOks nl ts=true
 | [],_=>by rw[VOks]
 | t :: ts,h=>by
  rw[VOks,Bool.and_eq_true];exact⟨h t (by simp),VOks_of fun u hu=>h u (by simp[hu])⟩
mutual
theorem vok_inT:∀ (t:Tree),InT t=true→VOk false t=true
 | .node k x a e kids,h=>by
  rw[InT]at h;simp only[Bool.and_eq_true,Bool.or_eq_true,decide_eq_true_eq]at h;obtain⟨⟨⟨hk,h12⟩,h16⟩,hks⟩:=h;have hv:=voks_inTs kids hks;rw[VOk,if_neg (show ¬ k=5 by omega)];split
  ·exact hv
  split
  ·simp only[Bool.not_false,Bool.true_and,Bool.and_eq_true,Bool.or_eq_true,decide_eq_true_eq]
   exact⟨⟨h12,h16⟩,hv⟩
  ·exact hv
theorem voks_inTs:∀ (ts:List Tree),InTs ts=true→VOks false ts=true
 | [],_=>by rw[VOks]
 | t :: ts,h=>by
  rw[InTs,Bool.and_eq_true]at h;rw[VOks,Bool.and_eq_true];exact⟨vok_inT t h.1,voks_inTs ts h.2⟩
end
theorem nine_nil {c:Tree} (h:shapedM c=true) (hk:c.kind=9):c.kids = []:=by
 rw[shaped_node,Bool.and_eq_true]at h;obtain⟨sh,hs,hf⟩:=shapedN_some h.1;obtain⟨-,hc,-⟩:=fits_parts hf;rw[hk]at hs;have he:some _=some sh:=hs
 cases he
 have:c.kids.length=0:=by simpa [cntFit] using hc
 exact List.length_eq_zero_iff.1 this
theorem field_nine {f:Tree} (h:shapedM f=true) (hk:f.kind=4):∀ c ∈ f.kids,c.kind=9:=by
 rw[shaped_node,Bool.and_eq_true]at h;obtain⟨sh,hs,hf⟩:=shapedN_some h.1;obtain⟨-,-,hkf⟩:=fits_parts hf;rw[hk]at hs;have he:some _=some sh:=hs
 cases he
 intro c hc;obtain⟨p,hp,hpk⟩:=kidsFit_mem _ f.kids 0 hkf c hc
 rcases hp with hp | hp
 ·cases hp
 ·simp only[List.mem_cons,List.not_mem_nil,or_false]at hp
  subst hp
  simpa [oneP] using hpk
theorem vok_field {f:Tree} (h:shapedM f=true) (hk:f.kind=4):VOk true f=true:=by
 have h1:=field_nine h hk;have h2:=shaped_kids h;obtain⟨k,x,a,e,kids⟩:=f;have hk':k=4:=hk;subst hk';rw[VOk,if_neg (by decide),if_neg (by decide),if_neg (by decide)]
 refine VOks_of fun c hc=>?_
 have h3:=nine_nil (h2 c hc) (h1 c hc);have h4:=h1 c hc;obtain⟨k,x,a,e,kids⟩:=c;have h5:kids = []:=h3;have h6:k=9:=h4;subst h5 h6;rw[VOk,if_neg (by decide),if_neg (by decide),if_neg (by decide),VOks]
theorem vok_top {t:Tree} (h:shapedM t=true) (ht:TopK t=true):VOk true t=true:=by
 have h2:=shaped_kids h;obtain⟨k,x,a,e,kids⟩:=t;rw[TopK,Bool.or_eq_true,Bool.and_eq_true,Bool.and_eq_true,Bool.and_eq_true,decide_eq_true_eq,decide_eq_true_eq,decide_eq_true_eq]at ht
 rcases ht with ⟨rfl,hf⟩ | ⟨⟨rfl,hl⟩,hin⟩
 ·rw[VOk,if_neg (by decide),if_neg (by decide),if_neg (by decide)]
  refine VOks_of fun f hfm=>?_
  have h3:=List.all_eq_true.1 hf f hfm;rw[Bool.and_eq_true,decide_eq_true_eq]at h3;exact vok_field (h2 f hfm) h3.1
 ·rw[VOk,if_pos rfl,Bool.and_eq_true,decide_eq_true_eq]
  exact⟨hl,voks_inTs kids hin⟩
theorem valid_vok {t:Tree} (h:validM t=true):VOk true t=true:=by
 obtain⟨h1,h2⟩:=topK_valid h;unfold validM at h;rw[Bool.and_eq_true]at h;have h3:=shaped_kids h.2;obtain⟨k,x,a,e,kids⟩:=t;have hk:k=2:=h1;subst hk;rw[VOk,if_neg (by decide),if_neg (by decide),if_neg (by decide)]
 exact VOks_of fun c hc=>vok_top (h3 c hc) (h2 c hc)
end Go.Proofs.YtoepemlnlpamlaaGreat
namespace Go.Proofs.YtoepemlnlpamlaaGreat
set_option maxRecDepth 100000
set_option maxHeartbeats 4000000
open Go.RowKit
theorem RSAt.pushU {E:RC} {G:Glob} {r:RS} {V:RV} {w w3:World} (h:RSAt E G r V w) (hv:r.vis = []) (hvv:V.vals = []) (x:Int) {A3:Option Addr} {c3:Nat}
 (ho:OwnS w3 E.base 3 1 (.slice A3 (r.uses.length+1) c3) (r.uses.length+1) (ivs r.uses ++ [.int .i64 x])) (hg:w.grownBy w3 (Value.slice E.uA r.uses.length E.uc).ownBlock) :
 RSAt { E with uA:=A3,uc:=c3 } G { r with uses:=r.uses ++ [x] } V (w3.setCell ⟨E.rp,4,none⟩ (.slice A3 (r.uses.length+1) c3))∧Since (fun g=>E.base≤g) w (w3.setCell ⟨E.rp,4,none⟩ (.slice A3 (r.uses.length+1) c3)):=by
 have hs:Since (fun g=>g=E.rp∨(Value.slice E.uA r.uses.length E.uc).ownBlock=some g) w (w3.setCell ⟨E.rp,4,none⟩ (.slice A3 (r.uses.length+1) c3)) :=
  ((Since.refl _ w).grown hg (fun g hg=>.inl (.inr hg))).setCell (.inl (.inl rfl)) _
 have hpr:(Value.slice E.uA r.uses.length E.uc).ownBlock≠some E.rp:=h.us.ne_blk h.blk (by decide);have hb3:Blk w3 E.rp 75 _:=h.blk.grown hg (Ne.symm hpr)
 have ham:∀ {K:Type} [DecidableEq K] {KK:KeyK K} {q:Nat} {m:List (K × Value)},AMap KK w q m→AMap KK (w3.setCell ⟨E.rp,4,none⟩ (.slice A3 (r.uses.length+1) c3)) q m:=fun ha=>ha.since hs (fun h1=>by
  rcases h1 with h1 | h1
  ·exact ha.not_blk h.blk h1
  ·exact ha.not_own h.us h1)
 have how:∀ {e size v n xs},OwnS w E.base e size v n xs→e≠75→e≠3→OwnS (w3.setCell ⟨E.rp,4,none⟩ (.slice A3 (r.uses.length+1) c3)) E.base e size v n xs:=fun ha h1 h2=>ha.since hs (fun g hg h3=>by
  rcases h3 with h3 | h3
  ·exact ha.ne_blk h.blk h1 (by rw[hg,h3])
  ·exact ha.apart h.us h2 g hg h3)
 have hl:(r.uses ++ [x]).length=r.uses.length+1:=by simp
 have hiv:ivs (r.uses ++ [x])=ivs r.uses ++ [.int .i64 x]:=by simp[ivs]
 refine⟨⟨?_,ham h.gl,ham h.fl,ham h.kn,ham h.vi,?_,how h.ds (by decide) (by decide),?_,how h.ps (by decide) (by decide),h.low,h.apart⟩,?_⟩
 ·have:=hb3.set_ 4 (.slice A3 (r.uses.length+1) c3)
  simp only[hl]
  simpa using this
 ·simp only[hv,hvv]
  rfl
 ·have hne3:(Value.slice A3 (r.uses.length+1) c3).ownBlock≠some E.rp:=ho.ne_blk hb3 (by decide)
  have:=ho.setCell (p:=⟨E.rp,4,none⟩) hne3 (.slice A3 (r.uses.length+1) c3);simp only[hl,hiv];exact this
 ·refine Since.mono hs fun g h1=>?_
  rcases h1 with rfl | h1
  ·exact h.low.1
  ·exact(h.us.lt g h1).1
theorem RSAt.collected {E:RC} {G G':Glob} {r:RS} {V:RV} {w w':World} (h:RSAt E G r V w) (hs:Since (fun x=>x=E.g∨x=E.f∨x=E.k) w w') (hc:CG E.g E.f E.k G' w'):RSAt E G' r V w' where
 blk:=h.blk.since hs (fun h1=>by
  rcases h1 with h1 | h1 | h1
  ·exact h.gl.not_blk h.blk h1.symm
  ·exact h.fl.not_blk h.blk h1.symm
  ·exact h.kn.not_blk h.blk h1.symm)
 gl:=hc.gl
 fl:=hc.fl
 kn:=hc.kn
 vi:=h.vi.since hs (fun h1=>by have:=h.apart;omega)
 vis:=VisAt.of_block h.vis fun g cur hg _=>hs.block g (Array.getElem?_eq_some_iff.1 hg).1 fun h1=>by
  have hm:∃ es ck,w.heap[g]? = some (.map es ck):=by
   rcases h1 with rfl | rfl | rfl
   ·exact h.gl.isMap
   ·exact h.fl.isMap
   ·exact h.kn.isMap
  obtain⟨es,ck,hm⟩:=hm;rw[hm]at hg
  cases hg
 ds:=h.ds.since hs (fun g hg h1=>by
  rcases h1 with rfl | rfl | rfl
  ·exact h.gl.not_own h.ds hg
  ·exact h.fl.not_own h.ds hg
  ·exact h.kn.not_own h.ds hg)
 us:=h.us.since hs (fun g hg h1=>by
  rcases h1 with rfl | rfl | rfl
  ·exact h.gl.not_own h.us hg
  ·exact h.fl.not_own h.us hg
  ·exact h.kn.not_own h.us hg)
 ps:=h.ps.since hs (fun g hg h1=>by
  rcases h1 with rfl | rfl | rfl
  ·exact h.gl.not_own h.ps hg
  ·exact h.fl.not_own h.ps hg
  ·exact h.kn.not_own h.ps hg)
 low:=h.low
 apart:=h.apart
theorem VisAt.since {w w':World} {base:Nat} {ub:Option Nat} {S:Nat→Prop} (hs:Since S w w'):∀ {l:List (Int × List Int)} {vals:List (Int × Value)},VisAt w base ub l vals→(∀ y ∈ vals,∀ g,y.2.ownBlock=some g→¬ S g)→VisAt w' base ub l vals
 | [],_,h,_=>h
 | x :: _,_,⟨v,vs,h1,h2,h3,h4⟩,hk=>by
  subst h1;exact⟨v,vs,rfl,h2.since hs (fun g hg=>hk (x.1,v) (by simp) g hg),h3,VisAt.since hs h4 fun y hy=>hk y (by simp[hy])⟩
theorem VisAt.split {w:World} {base:Nat} {ub:Option Nat} {k:Int} {v:Value} {v2:List (Int × Value)}:∀ (v1:List (Int × Value)) {l:List (Int × List Int)},VisAt w base ub l (v1 ++ (k,v) :: v2) →
 ∃ l1 lx l2,l=l1 ++ (k,lx) :: l2∧OwnS w base 3 1 v lx.length (ivs lx)∧(∀ g,v.ownBlock=some g→ub≠some g) ∧
  ∀ lx' w',OwnS w' base 3 1 v lx'.length (ivs lx')→Since (fun g=>v.ownBlock=some g) w w'→VisAt w' base ub (l1 ++ (k,lx') :: l2) (v1 ++ (k,v) :: v2)
 | [],l,h=>by
  cases l with
  | nil =>
   have:([]:List (Int × Value)) ++ (k,v) :: v2 = []:=h
   cases this
  | cons x l =>
   obtain⟨v',vs,h1,h2,h3,h4⟩:=h;simp only[List.nil_append,List.cons.injEq,Prod.mk.injEq]at h1;obtain⟨⟨e1,rfl⟩,rfl⟩:=h1;obtain⟨k',lx⟩:=x;have e2:k=k':=e1;subst e2;exact⟨[],lx,l,rfl,h2,fun g hg=>(h3 g hg).1,fun lx' w' ho hs=>⟨v,v2,rfl,ho,h3,VisAt.since hs h4 fun y hy g hg hv=>(h3 g hv).2 y hy hg⟩⟩
 | y :: v1,l,h=>by
  cases l with
  | nil =>
   have:(y :: v1) ++ (k,v) :: v2 = []:=h
   cases this
  | cons x l =>
   obtain⟨v',vs,h1,h2,h3,h4⟩:=h;simp only[List.cons_append,List.cons.injEq]at h1;obtain⟨rfl,rfl⟩:=h1;obtain⟨l1,lx,l2,rfl,h5,h6,h7⟩:=VisAt.split v1 h4;exact⟨x :: l1,lx,l2,rfl,h5,h6,fun lx' w' ho hs=>⟨v',v1 ++ (k,v) :: v2,rfl,h2.since hs (fun g hg hv=>(h3 g hg).2 (k,v) (by simp) hv),h3,h7 lx' w' ho hs⟩⟩
theorem RSAt.setVis {E:RC} {G:Glob} {r:RS} {V:RV} {w:World} (h:RSAt E G r V w) {v1 v2:List (Int × Value)} {k:Int} {v:Value} (hvals:V.vals=v1 ++ (k,v) :: v2) :
 ∃ l1 lx l2,r.vis=l1 ++ (k,lx) :: l2∧OwnS w E.base 3 1 v lx.length (ivs lx) ∧
  ∀ lx' w',OwnS w' E.base 3 1 v lx'.length (ivs lx')→Since (fun g=>v.ownBlock=some g) w w'→RSAt E G { r with vis:=l1 ++ (k,lx') :: l2 } V w':=by
 have hv:=h.vis;rw[hvals]at hv;obtain⟨l1,lx,l2,e,h5,h6,h7⟩:=VisAt.split v1 hv;refine⟨l1,lx,l2,e,h5,fun lx' w' ho hs=>?_⟩
 have ham:∀ {K:Type} [DecidableEq K] {KK:KeyK K} {q:Nat} {m:List (K × Value)},AMap KK w q m→AMap KK w' q m:=fun ha=>ha.since hs (fun h1=>ha.not_own h5 h1)
 refine⟨h.blk.since hs (fun h1=>h5.ne_blk h.blk (by decide) h1),ham h.gl,ham h.fl,ham h.kn,ham h.vi,?_,h.ds.since hs (fun g hg h3=>h.ds.apart h5 (by decide) g hg h3),h.us.since hs (fun g hg h3=>h6 g h3 hg),h.ps.since hs (fun g hg h3=>h.ps.apart h5 (by decide) g hg h3),h.low,h.apart⟩;rw[hvals];exact h7 lx' w' ho hs
theorem RSAt.sinceO {E:RC} {G:Glob} {r:RS} {V:RV} {w w':World} {S:Nat→Prop} (h:RSAt E G r V w) (hs:Since S w w') (hS:∀ g cs t fr,w.heap[g]? = some (.cells cs t fr)→¬ S g) (hM:∀ g es ck,w.heap[g]? = some (.map es ck)→¬ S g):RSAt E G r V w':=by
 have ham:∀ {K:Type} [DecidableEq K] {KK:KeyK K} {q:Nat} {m:List (K × Value)},AMap KK w q m→AMap KK w' q m:=fun ha=>ha.since hs (fun h1=>by
  obtain⟨es,ck,ho⟩:=ha.isMap
  exact hM _ _ _ ho h1)
 have how:∀ {e size v n xs},OwnS w E.base e size v n xs→OwnS w' E.base e size v n xs:=fun ha=>ha.since hs (fun g hg h1=>by
  obtain⟨cur,ho⟩:=ha.obj g hg
  exact hS _ _ _ _ ho h1)
 exact⟨h.blk.since hs (hS _ _ _ _ h.blk),ham h.gl,ham h.fl,ham h.kn,ham h.vi,VisAt.of_block h.vis fun g cur hg _=>hs.block g (Array.getElem?_eq_some_iff.1 hg).1 (hS _ _ _ _ hg),how h.ds,how h.us,how h.ps,h.low,h.apart⟩
theorem AIter.obj {K:Type} [DecidableEq K] {KK:KeyK K} {w:World} {r b:Nat} {m:List (K × Value)} {left:List (Value × Value)} (h:AIter KK w r b m left):∃ a c d e,w.heap[b]? = some (.mapIter a c d e):=by
 obtain⟨es,clock,seen,c0,-,-,-,-,h5,-⟩:=h;exact⟨_,_,_,_,h5⟩
theorem step_map {α:Type} {F:α→α} {l:List α} {i:Nat} {u:α} (h:l[i]? = some u):((l.take i).map F ++ l.drop i)[i]? = some u∧((l.take i).map F ++ l.drop i).set i (F u)=(l.take (i+1)).map F ++ l.drop (i+1):=by
 obtain⟨hlt,he⟩:=List.getElem?_eq_some_iff.1 h
 have hl:((l.take i).map F).length=i:=by simp;omega
 have hd:l.drop i=u :: l.drop (i+1):=by rw[List.drop_eq_getElem_cons hlt,he]
 constructor
 ·rw[List.getElem?_append_right (by omega),hl,Nat.sub_self,hd]
  rfl
 ·rw[List.set_append_right _ _ (by omega),hl,Nat.sub_self,hd,take_snoc h]
  simp
theorem setL_mem_keys {K V:Type} [DecidableEq K] (l:List (K × V)) (k:K) (v:V) (hn:(l.map (·.1)).Nodup):((setL l k v).map (·.1)).Nodup:=by
 by_cases hk:k ∈ l.map (·.1)
 ·have:(setL l k v).map (·.1)=l.map (·.1):=by
   clear hn
   induction l with
   | nil=>cases hk
   | cons x l ih =>
    rw[setL]
    by_cases h:k=x.1
    ·rw[if_pos h,List.map_cons,List.map_cons,h]
    ·rw[if_neg h,List.map_cons,List.map_cons]
     rw[List.map_cons,List.mem_cons]at hk;rw[ih (hk.resolve_left h)]
  rw[this];exact hn
 ·have:setL l k v=l ++ [(k,v)]:=setL_new1 v hk
  rw[this,List.map_append,List.nodup_append];refine⟨hn,by simp,fun a ha b hb=>?_⟩;simp at hb;subst hb
  exact fun e=>hk (e ▸ ha)
theorem keys_steps:Steps fun a b=>(a.vis.map (·.1)).Nodup→(b.vis.map (·.1)).Nodup where
 refl:=fun _ h=>h
 trans:=fun h k q=>k (h q)
 none_:=fun r i v h=>by
  unfold entM
  cases i
  ·exact h
  ·exact setL_mem_keys _ _ _ h
 say:=fun r i v c t h=>by
  unfold sayM entM
  cases i
  ·exact h
  ·exact setL_mem_keys _ _ _ h
 decl:=fun r i v c t h=>by
  unfold declM entM
  cases i
  ·exact h
  ·exact setL_mem_keys _ _ _ h
 use:=fun r i v k h=>by
  unfold entM
  cases i
  ·exact h
  ·exact setL_mem_keys _ _ _ h
 owner:=fun r o h=>h
theorem visit_keys (G:Glob) (t:Tree) (i:Bool) (s:Scope) (r:RS) (h:(r.vis.map (·.1)).Nodup):((visitM G i t s r).1.vis.map (·.1)).Nodup:=visit_rel keys_steps G t i s r h
def visP (F:Int→Int) (f:Int→Bool) (l:List (Int × List Int)):List (Int × List Int):=l.map fun x=>(x.1,if f x.1 then x.2 else x.2.map F)
theorem visP_step {F:Int→Int} {f:Int→Bool} {l l1 l2:List (Int × List Int)} {k:Int} {lx:List Int} (hn:(l.map (·.1)).Nodup) (h:visP F f l=l1 ++ (k,lx) :: l2) (hf:f k=true) :
 visP F (fun j=>f j && decide (j≠k)) l=l1 ++ (k,lx.map F) :: l2:=by
 unfold visP at h ⊢;obtain⟨o1,o2,rfl,h1,h2⟩:=List.map_eq_append_iff.1 h;obtain⟨y,o3,rfl,h3,h4⟩:=List.map_eq_cons_iff.1 h2;have hk:y.1=k:=congrArg Prod.fst h3
 have hx:y.2=lx:=by
  have:=congrArg Prod.snd h3;simp only[hk,hf,if_true]at this;exact this
 rw[List.map_append,List.map_cons,List.nodup_append]at hn;obtain⟨-,hn2,hn3⟩:=hn;rw[List.nodup_cons]at hn2;rw[List.map_append,List.map_cons,← h1,← h4]
 have e1:(o1.map fun x=>(x.1,if (f x.1 && decide (x.1≠k))=true then x.2 else x.2.map F))=o1.map fun x=>(x.1,if f x.1=true then x.2 else x.2.map F):=by
  refine List.map_congr_left fun x hx=>?_
  have:x.1≠k:=fun e=>hn3 x.1 (List.mem_map.2 ⟨x,hx,rfl⟩) y.1 (by simp) (by rw[e,hk])
  rw[decide_eq_true this,Bool.and_true]
 have e2:(o3.map fun x=>(x.1,if (f x.1 && decide (x.1≠k))=true then x.2 else x.2.map F))=o3.map fun x=>(x.1,if f x.1=true then x.2 else x.2.map F):=by
  refine List.map_congr_left fun x hx=>?_
  have:x.1≠k:=fun e=>hn2.1 (by rw[hk,← e];exact List.mem_map.2 ⟨x,hx,rfl⟩)
  rw[decide_eq_true this,Bool.and_true]
 rw[e1,e2]
 congr 2
 rw[hk,hx];simp
theorem visP_end {F:Int→Int} {f:Int→Bool} {l:List (Int × List Int)} (h:∀ k ∈ l.map (·.1),f k=false):visP F f l=l.map fun x=>(x.1,x.2.map F):=by
 unfold visP
 refine List.map_congr_left fun x hx=>?_
 rw[h x.1 (List.mem_map.2 ⟨x,hx,rfl⟩)];rfl
theorem visP_start (F:Int→Int) (l:List (Int × List Int)):visP F (fun _=>true) l=l:=by
 unfold visP;simp
end Go.Proofs.YtoepemlnlpamlaaGreat
