/- The law NamesFreeAt holds: for every text and every number the law returns true, and its arguments read as before. No condition. Part 38: At3 At4 At5. -/
import Derived.Test.YtoepemlnlpamlaaGreatFreeAt34
import Derived.Test.YtoepemlnlpamlaaGreatFreeAt37
namespace Go.Proofs.YtoepemlnlpamlaaGreat
set_option maxRecDepth 100000
set_option maxHeartbeats 4000000
structure ScInv (s:Scope) (r:RS):Prop where
 nodup:(s.flatten.map (·.1)).Nodup
 decl:∀ y ∈ s.flatten,∃ d ∈ r.ds,d.node=y.2∧d.name=y.1
theorem ScInv.mono {s:Scope} {r q:RS} (h:ScInv s r) (k:Rng r q):ScInv s q:=by
 obtain⟨l,e,_⟩:=k.ds;exact⟨h.nodup,fun y hy=>by obtain⟨d,hd,h1⟩:=h.decl y hy;exact⟨d,by rw[e];exact List.mem_append_left _ hd,h1⟩⟩
theorem ScInv.push {s:Scope} {r:RS} (h:ScInv s r):ScInv ([] :: s) r:=⟨by simpa using h.nodup,fun y hy=>h.decl y (by simpa using hy)⟩
theorem lookL_none {K V:Type} [DecidableEq K]:∀ {l:List (K × V)} {k:K},lookL l k=none→k ∉ l.map (·.1)
 | [],_,_=>by simp
 | x :: l,k,h=>by
  rw[lookL]at h
  by_cases hk:k=x.1
  ·rw[if_pos hk]at h;cases h
  ·rw[if_neg hk]at h
   rw[List.map_cons,List.mem_cons]
   exact fun h1=>h1.elim hk (lookL_none h)
theorem findS_none:∀ {s:Scope} {x:ByteArray},findS s x=none→x ∉ s.flatten.map (·.1)
 | [],_,_=>by simp
 | l :: s,x,h=>by
  rw[findS]at h
  cases hl:layM l x with
  | some k=>rw[hl]at h;cases h
  | none =>
   rw[hl]at h;have h1:=lookL_none (show lookL l x=none from hl);have h2:=findS_none (show findS s x=none from h);rw[List.flatten_cons,List.map_append,List.mem_append]
   exact fun h3=>h3.elim h1 h2
theorem setL_new {K V:Type} [DecidableEq K]:∀ {l:List (K × V)} {k:K} (v:V),k ∉ l.map (·.1)→setL l k v=l ++ [(k,v)]
 | [],_,_,_=>rfl
 | x :: l,k,v,h=>by
  rw[List.map_cons,List.mem_cons]at h
  have hk:k≠x.1:=fun e=>h (.inl e)
  rw[setL,if_neg hk,setL_new v fun h1=>h (.inr h1)];rfl
theorem ScInv.var {s:Scope} {r:RS} (h:ScInv s r) {x:ByteArray} {n:Int} (hf:findS s x=none) (hd:∃ d ∈ r.ds,d.node=n∧d.name=x):ScInv (addTop s [(x,n)]) r∧ScInv ([(x,n)] :: s) r:=by
 have hx:=findS_none hf
 have h2:ScInv ([(x,n)] :: s) r:=⟨by rw[List.flatten_cons,List.map_append];exact List.nodup_cons.2 ⟨hx,h.nodup⟩,fun y hy=>by
  rw[List.flatten_cons,List.mem_append]at hy
  rcases hy with hy | hy
  ·rw[List.mem_singleton]at hy
   subst hy;exact hd
  ·exact h.decl y hy⟩
 refine⟨?_,h2⟩
 cases s with
 | nil=>exact h
 | cons l s =>
  have hl:x ∉ l.map (·.1):=fun h1=>hx (by rw[List.flatten_cons,List.map_append];exact List.mem_append_left _ h1)
  have e:addTop (l :: s) [(x,n)] =(l ++ [(x,n)]) :: s:=by
   show (setL l x n) :: s=_;rw[setL_new _ hl]
  rw[e];refine⟨?_,fun y hy=>h2.decl y ?_⟩
  ·have hn:=h2.nodup
   rw[List.flatten_cons,List.flatten_cons]at hn;rw[List.flatten_cons];refine((List.Perm.map _ ?_).nodup_iff).1 hn;rw[← List.append_assoc];exact List.perm_append_comm.append_right _
  ·rw[List.flatten_cons]at hy
   rw[List.flatten_cons,List.flatten_cons];simp only[List.mem_append,List.mem_singleton]at hy ⊢
   rcases hy with (hy | hy) | hy
   ·exact .inr (.inl hy)
   ·exact .inl hy
   ·exact .inr (.inr hy)
theorem var_clean {G:Glob} {r:RS} {i:Bool} {v:List Int} {c:Int} {t:Tree} {s:Scope} (h:Clean r (variableM G (entM r i v) c r.next t s).1) :
 findS s t.text=none∧layM G.globals t.text=none∧variableM G (entM r i v) c r.next t s=(declM (entM r i v) c r.next t,addTop s [(t.text,(r.next:Int))]):=by
 unfold variableM at h ⊢;split at h
 ·unfold Clean sayM entM at h
  simp at h
 ·rename_i hb
  rw[if_neg hb];rw[Bool.or_eq_true,not_or]at hb;exact⟨by simpa using hb.1,by simpa using hb.2,rfl⟩
theorem rng_ent (r:RS) (i:Bool) (v:List Int):Rng r (entM r i v):=rng_steps.none_ r i v
theorem rng_var (G:Glob) (r:RS) (i:Bool) (v:List Int) (c:Int) (t:Tree) (s:Scope):Rng r (variableM G (entM r i v) c r.next t s).1:=rng_steps.variable_ G r i v c t s
theorem rng_use (r:RS) (i:Bool) (v:List Int) (t:Tree) (tq:Option Int):Rng r (useM (entM r i v) r.next t tq):=rng_steps.useM_ r i v t tq
theorem rng_useN (G:Glob) (s:Scope) (r:RS) (i:Bool) (v:List Int) (t:Tree):Rng r (useN G s r (entM r i v) t):=by
 unfold useN;split
 ·exact rng_use _ _ _ _ _
 split
 ·exact rng_use _ _ _ _ _
 split
 ·exact rng_use _ _ _ _ _
 split
 ·exact rng_use _ _ _ _ _
 split
 ·exact rng_use _ _ _ _ _
 ·exact rng_ent _ _ _
theorem useN_next (G:Glob) (s:Scope) (r:RS) (i:Bool) (v:List Int) (t:Tree):(useN G s r (entM r i v) t).next=r.next+1:=by
 have hu:∀ tq,(useM (entM r i v) r.next t tq).next=r.next+1:=fun tq=>by cases tq <;> rfl
 unfold useN;split
 ·exact hu _
 split
 ·exact hu _
 split
 ·exact hu _
 split
 ·exact hu _
 split
 ·exact hu _
 ·rfl
theorem visit_B (G:Glob) (k:Int) (x:ByteArray) (a e:Int) (kids:List Tree) (i:Bool) (s:Scope) (r:RS) (hin:InB (.node k x a e kids)=true) :
 visitM G i (.node k x a e kids) s r =
  if k=11 then ((visitsM G i kids 0 kids.length ([] :: s) (entM r i (sortI (allS s)))).1,s)
  else if k=12 then ((visitsM G i kids 0 kids.length s (variableM G (entM r i (sortI (allS s))) 4 r.next (.node k x a e kids) ([] :: s)).1).1,addTop s (varLay G (.node k x a e kids) s r.next))
  else if k=16 then ((visitsM G i kids 2 1 (varLay G (.node k x a e kids) s r.next :: s) (visitsM G i kids 0 2 s (variableM G (entM r i (sortI (allS s))) 5 r.next (.node k x a e kids) ([] :: s)).1).1).1,s)
  else ((visitsM G i kids 0 kids.length s (useN G s r (entM r i (sortI (allS s))) (.node k x a e kids))).1,s):=by
 obtain⟨hk,h12,h16,hno,hks⟩:=(inB_parts hin)
 have n3:k≠3:=by omega
 have n4:k≠4:=by omega
 have n5:k≠5:=by omega
 have n78:¬ (k=7∨k=8):=by omega
 rw[visitM_eq];rw[if_neg n3,if_neg n4,if_neg n5,if_neg n78]
 by_cases h11:k=11
 ·rw[if_pos h11,if_pos h11]
  refine Prod.ext rfl ?_;exact scope_tail G kids i 0 kids.length ([] :: s) _ hks
 rw[if_neg h11,if_neg h11]
 by_cases hk12:k=12
 ·rw[if_pos hk12,if_pos hk12,h12 hk12]
  refine Prod.ext rfl ?_;show addTop (visitsM G i kids 0 2 s _).2 _=_;rw[scope_visits G kids i 0 2 s _ hks (hno h11),variable_top]
 rw[if_neg hk12,if_neg hk12]
 by_cases hk16:k=16
 ·rw[if_pos hk16,if_pos hk16]
  rw[scope_visits G kids i 0 2 s _ hks (hno h11),variable_top];refine Prod.ext rfl ?_;show (visitsM G i kids 2 1 _ _).2.tail=s;rw[scope_visits G kids i 2 1 _ _ hks (hno h11)];rfl
 rw[if_neg hk16,if_neg hk16];refine Prod.ext rfl ?_;exact scope_visits G kids i 0 kids.length s _ hks (hno h11)
theorem varLay_clean {G:Glob} {t:Tree} {s:Scope} {n:Nat} (h1:findS s t.text=none) (h2:layM G.globals t.text=none):varLay G t s n = [(t.text,(n:Int))]:=by
 unfold varLay;rw[h1,h2];rfl
def AtN (G:Glob) (i:Bool) (r q:RS) (m:Nat) (o:Option Tree):Prop :=
 ∃ x s' r',o=some x∧InB x=true∧r'.next=m∧Rng r r'∧Rng (visitM G i x s' r').1 q∧ScInv s' r'
theorem AtN.out {G:Glob} {i:Bool} {r u q v:RS} {m:Nat} {o o':Option Tree} (h:AtN G i u v m o) (h1:Rng r u) (h2:Rng v q) (ho:o'=o):AtN G i r q m o':=by
 obtain⟨x,s',r',e,hin,hn,k1,k2,k3⟩:=h;exact⟨x,s',r',by rw[ho,e],hin,hn,h1.trans k1,k2.trans h2,k3⟩
mutual
theorem at_visit (G:Glob) (i:Bool):∀ (t:Tree) (s:Scope) (r:RS) (m:Nat),InB t=true→Clean r (visitM G i t s r).1→ScInv s r→r.next≤m→m < r.next+countM t →
 AtN G i r (visitM G i t s r).1 m (nodesM t)[m - r.next]?
 | .node k x a e kids,s,r,m,hin,hc,hs,hm1,hm2=>by
  by_cases hm:m=r.next
  ·subst hm
   refine⟨_,s,r,?_,hin,rfl,rng_steps.refl r,rng_steps.refl _,hs⟩;rw[nodesM,Nat.sub_self];rfl
  obtain⟨hk,h12,h16,hno,hks⟩:=(inB_parts hin)
  have hidx:(nodesM (.node k x a e kids))[m - r.next]? =(nodesL kids)[m - (r.next+1)]? := by
   rw[nodesM,show m - r.next=(m - (r.next+1))+1 by omega,List.getElem?_cons_succ]
  have hcnt:countM (.node k x a e kids)=1+countsM kids:=rfl;rw[visit_B G k x a e kids i s r hin]at hc ⊢;rw[hidx]
  have whole:∀ (s':Scope) (u:RS),u.next=r.next+1→Rng r u→ScInv s' u→Clean r (visitsM G i kids 0 kids.length s' u).1→AtN G i r (visitsM G i kids 0 kids.length s' u).1 m (nodesL kids)[m - (r.next+1)]? := fun s' u hu hr hs' hc=>by
   have hc2:=(Clean.split hr (visits_rng G kids i 0 kids.length s' u) hc).2;refine(at_visits G i kids 0 kids.length s' u m hks hc2 hs' (by omega) (by rw[hu];simp;omega)).out hr (rng_steps.refl _) ?_;rw[hu];simp
  by_cases h11:k=11
  ·rw[if_pos h11]at hc ⊢
   exact whole _ _ rfl (rng_ent _ _ _) ((hs.mono (rng_ent r i (sortI (allS s)))).push) hc
  rw[if_neg h11]at hc ⊢
  by_cases hk12:k=12
  ·rw[if_pos hk12]at hc ⊢
   have hr:=rng_var G r i (sortI (allS s)) 4 (.node k x a e kids) ([] :: s);have hcv:=(Clean.split hr (visits_rng G kids i 0 kids.length s _) hc).1;obtain⟨hf,hg,he⟩:=var_clean hcv;refine whole _ _ ?_ hr (hs.mono hr) hc;rw[he];rfl
  rw[if_neg hk12]at hc ⊢
  by_cases hk16:k=16
  ·rw[if_pos hk16]at hc ⊢
   have hr:=rng_var G r i (sortI (allS s)) 5 (.node k x a e kids) ([] :: s);have hr2:=visits_rng G kids i 0 2 s (variableM G (entM r i (sortI (allS s))) 5 r.next (.node k x a e kids) ([] :: s)).1;have hr3:=visits_rng G kids i 2 1 (varLay G (.node k x a e kids) s r.next :: s) (visitsM G i kids 0 2 s (variableM G (entM r i (sortI (allS s))) 5 r.next (.node k x a e kids) ([] :: s)).1).1;have hcv:=(Clean.split hr (hr2.trans hr3) hc).1;have hc23:=(Clean.split hr (hr2.trans hr3) hc).2;obtain⟨hc2,hc3⟩:=Clean.split hr2 hr3 hc23;obtain⟨hf,hg,he⟩:=var_clean hcv
   have hun:(variableM G (entM r i (sortI (allS s))) 5 r.next (.node k x a e kids) ([] :: s)).1.next=r.next+1:=by rw[he];rfl
   have hd:∃ d ∈ (variableM G (entM r i (sortI (allS s))) 5 r.next (.node k x a e kids) ([] :: s)).1.ds,d.node=(r.next:Int)∧d.name=x:=by
    rw[he];exact⟨⟨5,x,(r.next:Int),_⟩,by unfold declM;exact List.mem_append_right _ (List.mem_singleton.2 rfl),rfl,rfl⟩
   have hl:=h16 hk16;have hn2:=next_visits G kids i 0 2 s (variableM G (entM r i (sortI (allS s))) 5 r.next (.node k x a e kids) ([] :: s)).1 hks;rw[hun]at hn2
   match kids,hl,hks,hn2,hc,hc2,hc3,hr,hr2,hr3,hcv,hf,hg,he,hun,hd,hcnt,hm2 with
   | [b,c,d],_,hks,hn2,hc,hc2,hc3,hr,hr2,hr3,hcv,hf,hg,he,hun,hd,hcnt,hm2 =>
    by_cases hlt:m < r.next+1+(countM b+countM c)
    ·refine(at_visits G i [b,c,d] 0 2 s _ m hks hc2 (hs.mono hr) (by omega) (by rw[hun];simp[countsM];omega)).out hr hr3 ?_
     rw[hun]
     have hlen:m - (r.next+1) < (nodesL [b,c]).length:=by rw[nodesL_len];simp[countsM];omega
     have e1:nodesL [b,c,d] = nodesL [b,c] ++ nodesL [d]:=by simp[nodesL]
     rw[e1,List.getElem?_append_left hlen];rfl
    ·have hnn:(visitsM G i [b,c,d] 0 2 s (variableM G (entM r i (sortI (allS s))) 5 r.next (.node k x a e [b,c,d]) ([] :: s)).1).1.next=r.next+1+(countM b+countM c):=by
      rw[hn2];simp[countsM]
     have hsi:ScInv (varLay G (.node k x a e [b,c,d]) s r.next :: s) (visitsM G i [b,c,d] 0 2 s (variableM G (entM r i (sortI (allS s))) 5 r.next (.node k x a e [b,c,d]) ([] :: s)).1).1:=by
      rw[varLay_clean (show findS s _=none from hf) hg];exact(((hs.mono hr).var (show findS s x=none from hf) hd).2).mono hr2
     refine(at_visits G i [b,c,d] 2 1 _ _ m hks hc3 hsi (by rw[hnn];omega) (by rw[hnn];simp[countsM];rw[hcnt]at hm2;simp[countsM]at hm2;omega)).out (hr.trans hr2) (rng_steps.refl _) ?_;rw[hnn]
     have hlen:(nodesL [b,c]).length≤m - (r.next+1):=by rw[nodesL_len];simp[countsM];omega
     have e1:nodesL [b,c,d] = nodesL [b,c] ++ nodesL [d]:=by simp[nodesL]
     rw[e1,List.getElem?_append_right hlen,nodesL_len];simp[countsM]
     congr 1
     omega
  rw[if_neg hk16]at hc ⊢;exact whole _ _ (useN_next _ _ _ _ _ _) (rng_useN _ _ _ _ _ _) (hs.mono (rng_useN _ _ _ _ _ _)) hc
theorem at_visits (G:Glob) (i:Bool):∀ (ts:List Tree) (f n:Nat) (s:Scope) (r:RS) (m:Nat),InBs ts=true→Clean r (visitsM G i ts f n s r).1→ScInv s r→r.next≤m→m < r.next+countsM ((ts.drop f).take n) →
 AtN G i r (visitsM G i ts f n s r).1 m (nodesL ((ts.drop f).take n))[m - r.next]?
 | [],f,n,s,r,m,_,_,_,h1,h2=>by simp[countsM]at h2;omega
 | t :: ts,f+1,n,s,r,m,hin,hc,hs,h1,h2=>by
  rw[InBs,Bool.and_eq_true]at hin;rw[visitsM]at hc ⊢;rw[List.drop_succ_cons]at h2 ⊢;exact at_visits G i ts f n s r m hin.2 hc hs h1 h2
 | t :: ts,0,0,s,r,m,_,_,_,h1,h2=>by simp[countsM]at h2;omega
 | t :: ts,0,n+1,s,r,m,hin,hc,hs,h1,h2=>by
  rw[InBs,Bool.and_eq_true]at hin;rw[visitsM]at hc ⊢;have hr1:=visit_rng G t i s r;have hr2:=visits_rng G ts i 0 n (visitM G i t s r).2 (visitM G i t s r).1;obtain⟨hc1,hc2⟩:=Clean.split hr1 hr2 hc;have hn:=next_visit G t i s r hin.1;rw[List.drop_zero,List.take_succ_cons,nodesL];rw[List.drop_zero,List.take_succ_cons,countsM]at h2
  by_cases hlt:m < r.next+countM t
  ·refine(at_visit G i t s r m hin.1 hc1 hs h1 hlt).out (rng_steps.refl _) hr2 ?_
   rw[List.getElem?_append_left (by rw[nodesM_len];omega)]
  ·have hs2:ScInv (visitM G i t s r).2 (visitM G i t s r).1:=by
    rw[scope_visit G t i s r hin.1]
    by_cases h12:t.kind=12
    ·rw[if_pos h12]
     obtain⟨k,x,a,e,kids⟩:=t;have hk12:k=12:=h12;subst hk12;have hb:=visit_B G 12 x a e kids i s r hin.1;rw[if_neg (by decide),if_pos rfl]at hb;rw[hb]at hc1 ⊢;have hr:=rng_var G r i (sortI (allS s)) 4 (.node 12 x a e kids) ([] :: s);have hrr:=visits_rng G kids i 0 kids.length s (variableM G (entM r i (sortI (allS s))) 4 r.next (.node 12 x a e kids) ([] :: s)).1;obtain⟨hf,hg,he⟩:=var_clean (Clean.split hr hrr hc1).1;rw[varLay_clean (show findS s _=none from hf) hg];refine(((hs.mono hr).var (show findS s x=none from hf) ?_).1).mono hrr;rw[he];exact⟨⟨4,x,(r.next:Int),_⟩,by unfold declM;exact List.mem_append_right _ (List.mem_singleton.2 rfl),rfl,rfl⟩
    ·rw[if_neg h12]
     exact hs.mono hr1
   refine(at_visits G i ts 0 n _ _ m hin.2 hc2 hs2 (by rw[hn];omega) (by rw[hn];simpa using (by omega:m < r.next+countM t+countsM (ts.take n)))).out hr1 (rng_steps.refl _) ?_;rw[hn,List.getElem?_append_right (by rw[nodesM_len];omega),nodesM_len];simp only[List.drop_zero]
   congr 1
   omega
end
end Go.Proofs.YtoepemlnlpamlaaGreat
namespace Go.Proofs.YtoepemlnlpamlaaGreat
set_option maxRecDepth 100000
set_option maxHeartbeats 4000000
def P8 (p:Int→Bool):Prop:=∀ k,p k=true→(k < 2∨8 < k)
def P12 (p:Int→Bool):Prop:=∀ k,p k=true→k≠12
theorem p8_type:P8 isTypeM:=fun k h=>by unfold isTypeM at h;simp only[Bool.or_eq_true,decide_eq_true_eq]at h;omega
theorem p8_stmt:P8 isStmtM:=fun k h=>by unfold isStmtM at h;simp only[Bool.and_eq_true,decide_eq_true_eq]at h;omega
theorem p8_expr:P8 isExprM:=fun k h=>by unfold isExprM at h;simp only[Bool.and_eq_true,decide_eq_true_eq]at h;omega
theorem p8_place:P8 isPlaceM:=fun k h=>by unfold isPlaceM at h;simp only[Bool.or_eq_true,decide_eq_true_eq]at h;omega
theorem p8_opt {p:Int→Bool} (h:P8 p):P8 (optP p):=fun k hk=>by
 unfold optP at hk;simp only[Bool.or_eq_true,decide_eq_true_eq]at hk
 rcases hk with hk | hk
 ·omega
 ·exact h k hk
theorem p8_one {l:List Int} (h:∀ y ∈ l,y < 2∨8 < y):P8 (oneP l):=fun k hk=>by
 unfold oneP at hk;rw[List.any_eq_true]at hk;obtain⟨y,hy,hk⟩:=hk;rw[decide_eq_true_eq]at hk;subst hk;exact h _ hy
theorem p12_type:P12 isTypeM:=fun k h=>by unfold isTypeM at h;simp only[Bool.or_eq_true,decide_eq_true_eq]at h;omega
theorem p12_expr:P12 isExprM:=fun k h=>by unfold isExprM at h;simp only[Bool.and_eq_true,decide_eq_true_eq]at h;omega
theorem p12_place:P12 isPlaceM:=fun k h=>by unfold isPlaceM at h;simp only[Bool.or_eq_true,decide_eq_true_eq]at h;omega
theorem p12_opt {p:Int→Bool} (h:P12 p):P12 (optP p):=fun k hk=>by
 unfold optP at hk;simp only[Bool.or_eq_true,decide_eq_true_eq]at hk
 rcases hk with hk | hk
 ·omega
 ·exact h k hk
theorem p12_one {l:List Int} (h:∀ y ∈ l,y≠12):P12 (oneP l):=fun k hk=>by
 unfold oneP at hk;rw[List.any_eq_true]at hk;obtain⟨y,hy,hk⟩:=hk;rw[decide_eq_true_eq]at hk;subst hk;exact h _ hy
theorem shape_inB {k:Int} {sh:ShM} (h:shapeM k=some sh) (h2:k < 2∨8 < k):(∀ p,sh.list=some p→P8 p∧(k≠11→P12 p))∧∀ p ∈ sh.kids,P8 p∧P12 p:=by
 cases k with
 | negSucc n=>cases h
 | ofNat n =>
  have h5:shapeN n=some sh:=h
  have n2:n < 2∨8 < n:=by
   rcases h2 with h2 | h2
   ·have:(n:Int) < 2:=h2
    omega
   ·have:(8:Int) < n:=h2
    omega
  have e11:(Int.ofNat n≠11)→n≠11:=fun h e=>h (by rw[e];rfl)
  clear h h2;unfold shapeN at h5
  split at h5 <;> first | (cases h5;done) | (exfalso;omega) | skip
  all_goals
   cases h5
   refine⟨?_,?_⟩
   ·intro p hp
    first
     | (cases hp;done)
     | (cases hp;first | exact⟨p8_expr,fun _=>p12_expr⟩ | exact⟨p8_stmt,fun h=>absurd rfl (e11 h)⟩)
   ·intro p hp
    first
     | (cases hp;done)
     | (simp only[List.mem_cons,List.not_mem_nil,or_false]at hp
        first
         | (rcases hp with rfl | rfl | rfl <;> first | exact⟨p8_expr,p12_expr⟩ | exact⟨p8_place,p12_place⟩ | exact⟨p8_one (by decide),p12_one (by decide)⟩ | exact⟨p8_opt p8_type,p12_opt p12_type⟩ | exact⟨p8_opt p8_expr,p12_opt p12_expr⟩ | exact⟨p8_opt (p8_one (by decide)),p12_opt (p12_one (by decide))⟩)
         | (rcases hp with rfl | rfl <;> first | exact⟨p8_expr,p12_expr⟩ | exact⟨p8_place,p12_place⟩ | exact⟨p8_one (by decide),p12_one (by decide)⟩ | exact⟨p8_opt p8_type,p12_opt p12_type⟩ | exact⟨p8_opt p8_expr,p12_opt p12_expr⟩ | exact⟨p8_opt (p8_one (by decide)),p12_opt (p12_one (by decide))⟩)
         | (subst hp;first | exact⟨p8_expr,p12_expr⟩ | exact⟨p8_place,p12_place⟩ | exact⟨p8_one (by decide),p12_one (by decide)⟩ | exact⟨p8_opt p8_type,p12_opt p12_type⟩ | exact⟨p8_opt p8_expr,p12_opt p12_expr⟩ | exact⟨p8_opt (p8_one (by decide)),p12_opt (p12_one (by decide))⟩))
mutual
theorem inB_shaped:∀ (t:Tree),shapedM t=true→(t.kind < 2∨8 < t.kind)→InB t=true
 | .node k x a e kids,h,hk=>by
  rw[shaped_node,Bool.and_eq_true]at h;obtain⟨sh,hs,hf⟩:=shapedN_some h.1;obtain⟨-,hc,hkf⟩:=fits_parts hf;have hk':k < 2∨8 < k:=hk;have hs':shapeM k=some sh:=hs;obtain⟨hi1,hi2⟩:=shape_inB hs' hk';have hmem:=kidsFit_mem sh kids 0 hkf;rw[InB];simp only[Bool.and_eq_true,Bool.or_eq_true,decide_eq_true_eq,List.all_eq_true];refine⟨⟨⟨⟨hk',?_⟩,?_⟩,?_⟩,inBs_shaped kids h.2 fun c hc=>?_⟩
  ·by_cases h12:k=12
   ·subst h12
    right
    have:some _=some sh:=hs'
    cases this
    simpa [cntFit,Tree.kids] using hc
   ·exact .inl h12
  ·by_cases h16:k=16
   ·subst h16
    right
    have:some _=some sh:=hs'
    cases this
    simpa [cntFit,Tree.kids] using hc
   ·exact .inl h16
  ·by_cases h11:k=11
   ·exact .inl h11
   ·right
    intro c hc;obtain⟨p,hp,hpk⟩:=hmem c hc
    rcases hp with hp | hp
    ·exact(hi1 p hp).2 h11 _ hpk
    ·exact(hi2 p hp).2 _ hpk
  ·obtain⟨p,hp,hpk⟩:=hmem c hc
   rcases hp with hp | hp
   ·exact(hi1 p hp).1 _ hpk
   ·exact(hi2 p hp).1 _ hpk
theorem inBs_shaped:∀ (ts:List Tree),(nodesL ts).all shapedN=true→(∀ c ∈ ts,c.kind < 2∨8 < c.kind)→InBs ts=true
 | [],_,_=>by rw[InBs]
 | t :: ts,h,hc=>by
  rw[nodesL,List.all_append,Bool.and_eq_true]at h;rw[InBs,Bool.and_eq_true];exact⟨inB_shaped t h.1 (hc t (by simp)),inBs_shaped ts h.2 fun c hx=>hc c (by simp[hx])⟩
end
end Go.Proofs.YtoepemlnlpamlaaGreat
namespace Go.Proofs.YtoepemlnlpamlaaGreat
set_option maxRecDepth 100000
set_option maxHeartbeats 4000000
def Leaf (q:Tree):Prop:=q.kids = []∧(q.kind < 2∨8 < q.kind)∧q.kind < 11
theorem leaf_nodes {q:Tree} (h:Leaf q):nodesM q = [q]:=by
 rw[nodesM_eq,h.1];rfl
theorem leaf_inB {q:Tree} (h:Leaf q):InB q=true:=by
 obtain⟨h1,h2,h3⟩:=h;obtain⟨k,x,a,e,kids⟩:=q;have hk:kids = []:=h1;subst hk;have h2':k < 2∨8 < k:=h2;have h3':k < 11:=h3;rw[InB];simp only[Bool.and_eq_true,Bool.or_eq_true,decide_eq_true_eq];exact⟨⟨⟨⟨h2',.inl (by omega)⟩,.inl (by omega)⟩,.inr rfl⟩,by rw[InBs]⟩
theorem leaf_shaped {q:Tree} (h:shapedM q=true) (hk:optP isTypeM q.kind=true):Leaf q:=by
 rw[shaped_node,Bool.and_eq_true]at h;obtain⟨sh,hs,hf⟩:=shapedN_some h.1;obtain⟨-,hc,-⟩:=fits_parts hf;unfold optP isTypeM at hk;simp only[Bool.or_eq_true,decide_eq_true_eq]at hk;refine⟨?_,by omega,by omega⟩
 rcases hk with hk | hk | hk
 all_goals
  rw[hk]at hs;have he:some _=some sh:=hs
  cases he
  have:q.kids.length=0:=by simpa [cntFit] using hc
  exact List.length_eq_zero_iff.1 this
theorem prm_shaped {p:Tree} (h:shapedM p=true) (hk:p.kind=7∨p.kind=8):∀ q ∈ p.kids,Leaf q:=by
 have h2:=shaped_kids h;rw[shaped_node,Bool.and_eq_true]at h;obtain⟨sh,hs,hf⟩:=shapedN_some h.1;obtain⟨-,-,hkf⟩:=fits_parts hf;intro q hq;obtain⟨p1,hp,hpk⟩:=kidsFit_mem _ p.kids 0 hkf q hq;refine leaf_shaped (h2 q hq) ?_
 rcases hk with hk | hk
 all_goals
  rw[hk]at hs;have he:some _=some sh:=hs
  cases he
  rcases hp with hp | hp
  ·cases hp
  ·simp only[List.mem_cons,List.not_mem_nil,or_false]at hp
   subst hp;exact hpk
theorem proc_parts {x:ByteArray} {a e:Int} {kids:List Tree} (h:shapedM (.node 5 x a e kids)=true) :
 ∃ b c d,kids = [b,c,d]∧b.kind=6∧(∀ p ∈ b.kids,(p.kind=7∨p.kind=8)∧∀ q ∈ p.kids,Leaf q)∧Leaf c∧d.kind=11∧InB d=true:=by
 have h2:=shaped_kids h;rw[shaped_node,Bool.and_eq_true]at h;obtain⟨sh,hs,hf⟩:=shapedN_some h.1;obtain⟨-,hc,hkf⟩:=fits_parts hf;have he:some _=some sh:=hs
 cases he
 have hl:kids.length=3:=by simpa [cntFit,Tree.kids] using hc
 match kids,hl,hkf,h2 with
 | [b,c,d],_,hkf,h2 =>
  have hkf':kidsFit ⟨nameP2,[oneP [6],optP isTypeM,oneP [11]],none,0⟩ 0 [b,c,d] = true:=hkf;simp only[kidsFit,kidFit,Bool.and_eq_true,List.getElem?_cons_zero,List.getElem?_cons_succ]at hkf';obtain⟨hb,hc,hd,-⟩:=hkf'
  have hb6:b.kind=6:=by simpa [oneP] using hb
  have hd11:d.kind=11:=by simpa [oneP] using hd
  have hsb:=h2 b (by simp[Tree.kids]);refine⟨b,c,d,rfl,hb6,fun p hp=>?_,leaf_shaped (h2 c (by simp[Tree.kids])) hc,hd11,inB_shaped d (h2 d (by simp[Tree.kids])) (by omega)⟩;have hps:=shaped_kids hsb p hp
  have hpk:p.kind=7∨p.kind=8:=by
   rw[shaped_node,Bool.and_eq_true]at hsb;obtain⟨sh,hs,hf⟩:=shapedN_some hsb.1;obtain⟨-,-,hkf⟩:=fits_parts hf;rw[hb6]at hs;have he:some _=some sh:=hs
   cases he
   obtain⟨p1,hp1,hpk⟩:=kidsFit_mem _ b.kids 0 hkf p hp
   rcases hp1 with hp1 | hp1
   ·cases hp1
    simpa [oneP] using hpk
   ·cases hp1
  exact⟨hpk,prm_shaped hps hpk⟩
theorem leafs_inBs:∀ {l:List Tree},(∀ q ∈ l,Leaf q)→InBs l=true∧∀ q ∈ l,q.kind≠12
 | [],_=>⟨by rw[InBs],by simp⟩
 | q :: l,h=>by
  obtain⟨h1,h2⟩:=leafs_inBs (l:=l) fun u hu=>h u (by simp[hu])
  have hq:=h q (by simp);refine⟨by rw[InBs,Bool.and_eq_true];exact⟨leaf_inB hq,h1⟩,fun u hu=>?_⟩
  rcases List.mem_cons.1 hu with rfl | hu
  ·have:=hq.2.2
   omega
  ·exact h2 u hu
theorem prm_visit (G:Glob) (i:Bool) {p:Tree} (hk:p.kind=7∨p.kind=8) (hq:∀ q ∈ p.kids,Leaf q) {s:Scope} {r:RS} (hc:Clean r (visitM G i p s r).1) (hs:ScInv s r) :
 ScInv (visitM G i p s r).2 (visitM G i p s r).1∧(visitM G i p s r).1.next=r.next+countM p:=by
 obtain⟨k,x,a,e,kids⟩:=p;have hk':k=7∨k=8:=hk;have hq':∀ q ∈ kids,Leaf q:=hq;obtain⟨hin,hno⟩:=leafs_inBs hq';rw[visitM_eq,if_neg (by omega),if_neg (by omega),if_neg (by omega),if_pos hk']at hc ⊢;have hr:=rng_var G r i (sortI (allS s)) 3 (.node k x a e kids) s;have hr2:=visits_rng G kids i 0 kids.length (variableM G (entM r i (sortI (allS s))) 3 r.next (.node k x a e kids) s).2 (variableM G (entM r i (sortI (allS s))) 3 r.next (.node k x a e kids) s).1;obtain⟨hc1,-⟩:=Clean.split hr hr2 hc;obtain⟨hf,-,he⟩:=var_clean hc1;rw[scope_visits G kids i 0 kids.length _ _ hin hno,next_visits G kids i 0 kids.length _ _ hin];rw[he]at hr hr2 ⊢;refine⟨?_,?_⟩
 ·have hd:∃ d ∈ (declM (entM r i (sortI (allS s))) 3 r.next (.node k x a e kids)).ds,d.node=(r.next:Int)∧d.name=x:=⟨⟨3,x,(r.next:Int),_⟩,by unfold declM;exact List.mem_append_right _ (List.mem_singleton.2 rfl),rfl,rfl⟩
  exact(((hs.mono hr).var hf hd).1).mono hr2
 ·show (r.next+1)+countsM ((kids.drop 0).take kids.length)=r.next+countM (.node k x a e kids)
  rw[countM];simp;omega
theorem prms_visit (G:Glob) (i:Bool):∀ {ps:List Tree},(∀ p ∈ ps,(p.kind=7∨p.kind=8)∧∀ q ∈ p.kids,Leaf q)→∀ {s:Scope} {r:RS},Clean r (visitsM G i ps 0 ps.length s r).1→ScInv s r →
 ScInv (visitsM G i ps 0 ps.length s r).2 (visitsM G i ps 0 ps.length s r).1∧(visitsM G i ps 0 ps.length s r).1.next=r.next+countsM ps
 | [],_,s,r,_,hs=>by rw[visitsM];exact⟨hs,by rw[countsM];rfl⟩
 | p :: ps,h,s,r,hc,hs=>by
  rw[List.length_cons,visitsM]at hc ⊢;have hr1:=visit_rng G p i s r;have hr2:=visits_rng G ps i 0 ps.length (visitM G i p s r).2 (visitM G i p s r).1;obtain⟨hc1,hc2⟩:=Clean.split hr1 hr2 hc;obtain⟨h1,h2⟩:=prm_visit G i (h p (by simp)).1 (h p (by simp)).2 hc1 hs;obtain⟨h3,h4⟩:=prms_visit G i (fun q hq=>h q (by simp[hq])) hc2 h1;exact⟨h3,by rw[h4,h2,countsM];omega⟩
theorem scInv_nil (r:RS):ScInv [[]] r:=⟨by simp,fun y hy=>by simp at hy⟩
theorem low_nodes:∀ {l:List Tree} {x:Tree},x ∈ nodesL l→(∀ t ∈ l,∀ y ∈ nodesM t,y.kind < 11)→x.kind < 11
 | [],x,h,_=>by cases h
 | t :: l,x,h,hl=>by
  rw[nodesL,List.mem_append]at h
  rcases h with h | h
  ·exact hl t (by simp) x h
  ·exact low_nodes h fun u hu=>hl u (by simp[hu])
theorem leaf_low {q:Tree} (h:Leaf q):∀ y ∈ nodesM q,y.kind < 11:=by
 rw[leaf_nodes h];intro y hy;rw[List.mem_singleton]at hy;subst hy;exact h.2.2
theorem prm_low {p:Tree} (hk:p.kind=7∨p.kind=8) (hq:∀ q ∈ p.kids,Leaf q):∀ y ∈ nodesM p,y.kind < 11:=by
 rw[nodesM_eq];intro y hy
 rcases List.mem_cons.1 hy with rfl | hy
 ·omega
 ·exact low_nodes hy fun t ht=>leaf_low (hq t ht)
theorem at_proc (G:Glob) {x:ByteArray} {a e:Int} {kids:List Tree} (hsh:shapedM (.node 5 x a e kids)=true) {s:Scope} {r:RS} (hc:Clean r (visitM G false (.node 5 x a e kids) s r).1) {m:Nat} {y:Tree}
 (hm1:r.next≤m) (hm2:m < r.next+countM (.node 5 x a e kids)) (hy:(nodesM (.node 5 x a e kids))[m - r.next]? = some y) (h11:11≤y.kind):AtN G true r (visitM G false (.node 5 x a e kids) s r).1 m (some y):=by
 obtain⟨b,c,d,rfl,hb6,hps,hlc,hd11,hind⟩:=proc_parts hsh;rw[visitM_eq,if_neg (by decide),if_neg (by decide),if_pos rfl]at hc ⊢
 obtain⟨D,hD⟩:∃ D:RS,({ declareM (entM r false (sortI (allS s))) 2 r.next (.node 5 x a e [b,c,d]) (decide ((layM G.globals x).getD 0≠(r.next:Int))) with owner:=(r.next:Int) }:RS)=D:=⟨_,rfl⟩
 rw[hD]at hc ⊢
 have hrD:Rng r D:=by
  rw[← hD];exact(rng_steps.declare r false (sortI (allS s)) 2 (.node 5 x a e [b,c,d]) _).trans (rng_steps.owner _ _)
 have hnD:D.next=r.next+1:=by
  rw[← hD];exact declare_next (entM r false (sortI (allS s))) 2 r.next (.node 5 x a e [b,c,d]) _
 obtain⟨q,hq⟩:∃ q,visitsM G false [b,c,d] 0 2 [[]] D=q:=⟨_,rfl⟩
 rw[hq]at hc ⊢
 have hrq:Rng D q.1:=by rw[← hq];exact visits_rng G _ false 0 2 _ D
 have hrd:=visits_rng G [b,c,d] true 2 1 ([] :: q.2) q.1;obtain⟨hcD,hcd⟩:=Clean.split (hrD.trans hrq) hrd hc;obtain⟨-,hcq⟩:=Clean.split hrD hrq hcD
 have hqq:visitsM G false [b,c,d] 0 2 [[]] D=visitM G false c (visitM G false b [[]] D).2 (visitM G false b [[]] D).1:=by
  rw[visitsM,visitsM,visitsM]
 have hpb:ScInv (visitM G false b [[]] D).2 (visitM G false b [[]] D).1∧(visitM G false b [[]] D).1.next=D.next+countM b:=by
  have hcb:Clean D (visitM G false b [[]] D).1:=by
   rw[← hq,hqq]at hcq;exact(Clean.split (visit_rng G b false _ D) (visit_rng G c false _ _) hcq).1
  obtain⟨k,bx,ba,be,bk⟩:=b;have hk6:k=6:=hb6;subst hk6
  have hvb:visitM G false (.node 6 bx ba be bk) [[]] D=visitsM G false bk 0 bk.length [[]] (entM D false (sortI (allS [[]]))):=by
   rw[visitM_eq,if_neg (by decide),if_neg (by decide),if_neg (by decide),if_neg (by decide),if_neg (by decide),if_neg (by decide),if_neg (by decide)]
   have:useN G [[]] D (entM D false (sortI (allS [[]]))) (.node 6 bx ba be bk)=entM D false (sortI (allS [[]])):=by
    unfold useN;show (if (6:Int)=20 then _ else if (6:Int)=22 then _ else if (6:Int)=27 then _ else if (6:Int)=19 then _ else if (6:Int)=9∧isScalar bx=false then _ else _)=_;rw[if_neg (by decide),if_neg (by decide),if_neg (by decide),if_neg (by decide),if_neg (fun h=>absurd h.1 (by decide))]
   rw[this]
  rw[hvb]at hcb ⊢;have hre:=rng_ent D false (sortI (allS [[]]));obtain⟨-,hc2⟩:=Clean.split hre (visits_rng G bk false 0 bk.length [[]] _) hcb;obtain⟨h1,h2⟩:=prms_visit G false (ps:=bk) hps hc2 (scInv_nil _);refine⟨h1,?_⟩;rw[h2,countM];show D.next+1+_=_;omega
 have hsq:ScInv q.2 q.1∧q.1.next=r.next+1+countM b+countM c:=by
  rw[← hq,hqq];rw[scope_visit G c false _ _ (leaf_inB hlc),if_neg (by have:=hlc.2.2;omega),next_visit G c false _ _ (leaf_inB hlc),hpb.2,hnD];exact⟨hpb.1.mono (visit_rng G c false _ _),rfl⟩
 have hvd:visitsM G true [b,c,d] 2 1 ([] :: q.2) q.1=visitM G true d ([] :: q.2) q.1:=by
  rw[visitsM,visitsM,visitsM,visitsM]
 rw[hvd]at hc hcd hrd ⊢;have hcb1:(nodesM b).length=countM b:=nodesM_len b;have hcc1:(nodesM c).length=countM c:=nodesM_len c
 have hnodes:nodesM (.node 5 x a e [b,c,d])=(.node 5 x a e [b,c,d]) ::(nodesM b ++ (nodesM c ++ nodesM d)):=by
  rw[nodesM];simp[nodesL]
 rw[hnodes]at hy
 have hge:r.next+1+countM b+countM c≤m:=by
  refine Nat.le_of_not_lt fun hlt=>?_
  have:y.kind < 11:=by
   by_cases h0:m - r.next=0
   ·rw[h0,List.getElem?_cons_zero,Option.some.injEq]at hy
    rw[← hy];show (5:Int) < 11
    decide
   ·obtain⟨j,hj⟩:∃ j,m - r.next=j+1:=⟨m - r.next - 1,by omega⟩
    rw[hj,List.getElem?_cons_succ]at hy
    by_cases hjb:j < countM b
    ·rw[List.getElem?_append_left (by omega)]at hy
     have hyb:=List.mem_of_getElem? hy;rw[nodesM_eq]at hyb
     rcases List.mem_cons.1 hyb with rfl | hyb
     ·omega
     ·exact low_nodes hyb fun t ht=>prm_low (hps t ht).1 (hps t ht).2
    ·rw[List.getElem?_append_right (by omega),List.getElem?_append_left (by omega)]at hy
     exact leaf_low hlc y (List.mem_of_getElem? hy)
  omega
 have hcnt:countM (.node 5 x a e [b,c,d])=1+(countM b+(countM c+countM d)):=by
  rw[countM];simp[countsM]
 have hat:=at_visit G true d ([] :: q.2) q.1 m hind hcd (hsq.1.push) (by rw[hsq.2];exact hge) (by rw[hsq.2];omega);refine hat.out (hrD.trans hrq) (rng_steps.refl _) ?_;rw[← hy,hsq.2]
 obtain⟨j,hj⟩:∃ j,m - r.next=j+1:=⟨m - r.next - 1,by omega⟩
 rw[hj,List.getElem?_cons_succ,List.getElem?_append_right (by omega),List.getElem?_append_right (by omega)]
 congr 1
 omega
theorem rec_low {x:ByteArray} {a e:Int} {kids:List Tree} (hsh:shapedM (.node 3 x a e kids)=true) (ht:TopK (.node 3 x a e kids)=true):∀ y ∈ nodesM (.node 3 x a e kids),y.kind < 11:=by
 have h2:=shaped_kids hsh
 have hf:(kids.all fun f=>decide (f.kind=4) && InTs f.kids)=true:=by
  rw[TopK]at ht
  simpa using ht
 rw[nodesM_eq];intro y hy
 rcases List.mem_cons.1 hy with rfl | hy
 ·show (3:Int) < 11
  decide
 ·refine low_nodes hy fun f hfm=>?_
  have h3:=List.all_eq_true.1 hf f hfm;rw[Bool.and_eq_true,decide_eq_true_eq]at h3;have h4:=field_nine (h2 f hfm) h3.1;have h5:=shaped_kids (h2 f hfm);rw[nodesM_eq];intro z hz
  rcases List.mem_cons.1 hz with rfl | hz
  ·omega
  ·refine low_nodes hz fun c hc=>?_
   exact leaf_low ⟨nine_nil (h5 c hc) (h4 c hc),.inr (by have:=h4 c hc;omega),by have:=h4 c hc;omega⟩
theorem at_top (G:Glob):∀ (ks:List Tree),(∀ k ∈ ks,shapedM k=true∧TopK k=true)→∀ (r:RS),Clean r (visitsM G false ks 0 ks.length [] r).1→∀ (m:Nat) (y:Tree),r.next≤m→(nodesL ks)[m - r.next]? = some y→11≤y.kind →
 AtN G true r (visitsM G false ks 0 ks.length [] r).1 m (some y)
 | [],_,r,_,m,y,_,hy,_=>by cases hy
 | k :: ks,h,r,hc,m,y,hm1,hy,h11=>by
  rw[List.length_cons,visitsM]at hc ⊢;obtain⟨hsh,ht⟩:=h k (by simp);have hr1:=visit_rng G k false [] r;have hr2:=visits_rng G ks false 0 ks.length (visitM G false k [] r).2 (visitM G false k [] r).1;obtain⟨hc1,hc2⟩:=Clean.split hr1 hr2 hc;have hs2:(visitM G false k [] r).2 = []:=List.length_eq_zero_iff.1 (by rw[visit_len];rfl);have hn:(visitM G false k [] r).1.next=r.next+countM k:=(top_one (Agree.refl G) k ht [] r rfl).2.2.1;rw[nodesL]at hy;have hlen:(nodesM k).length=countM k:=nodesM_len k
  by_cases hlt:m < r.next+countM k
  ·rw[List.getElem?_append_left (by omega)]at hy
   obtain⟨kk,x,a,e,kids⟩:=k;have ht':=ht;rw[TopK,Bool.or_eq_true,Bool.and_eq_true,Bool.and_eq_true,Bool.and_eq_true,decide_eq_true_eq,decide_eq_true_eq,decide_eq_true_eq]at ht'
   rcases ht' with ⟨rfl,-⟩ | ⟨⟨rfl,-⟩,-⟩
   ·have:=rec_low hsh ht y (List.mem_of_getElem? hy)
    omega
   ·exact(at_proc G hsh hc1 hm1 hlt hy h11).out (rng_steps.refl _) hr2 rfl
  ·rw[List.getElem?_append_right (by omega)]at hy
   rw[hs2]at hc2 hr2 ⊢;refine(at_top G ks (fun c hc=>h c (by simp[hc])) _ hc2 m y (by omega) (by rw[← hy,hn,hlen];congr 1;omega) h11).out hr1 (rng_steps.refl _) rfl
end Go.Proofs.YtoepemlnlpamlaaGreat
