/- The law NamesFreeAt holds: for every text and every number the law returns true, and its arguments read as before. No condition. Part 39: Free Fre1. -/
import Derived.Test.YtoepemlnlpamlaaGreatFreeAt36
import Derived.Test.YtoepemlnlpamlaaGreatFreeAt38
namespace Go.Proofs.YtoepemlnlpamlaaGreat
set_option maxRecDepth 100000
set_option maxHeartbeats 4000000
theorem bab (k j:ByteArray):(k == j)=decide (k=j):=by
 obtain⟨a⟩:=k;obtain⟨b⟩:=j;show (a == b)=_;rw[Bool.eq_iff_iff];simp
instance lawfulBA:LawfulBEq ByteArray where
 eq_of_beq {a b} h:=by
  rw[bab]at h;exact of_decide_eq_true h
 rfl {a}:=by
  rw[bab];simp
def Cov (σ:ByteArray→Prop) (S:List (List ByteArray)) (s:Scope):Prop:=∀ y,(findS s y).isSome=true→(S.any fun l=>l.contains y)=true∨σ y
theorem Cov.push {σ:ByteArray→Prop} {S:List (List ByteArray)} {s:Scope} (h:Cov σ S s):Cov σ ([] :: S) s:=fun y hy=>by
 rcases h y hy with h | h
 ·left
  rw[List.any_cons,h,Bool.or_true]
 ·exact .inr h
theorem findS_cons_one (s:Scope) (x:ByteArray) (n:Int) (y:ByteArray) (h:(findS ([(x,n)] :: s) y).isSome=true):y=x∨(findS s y).isSome=true:=by
 rw[findS]at h
 by_cases hy:y=x
 ·exact .inl hy
 ·have:layM [(x,n)] y=none:=by
   show lookL [(x,n)] y=none;rw[lookL,if_neg hy,lookL]
  rw[this]at h;exact .inr h
theorem findS_addTop (s:Scope) (l:Lay) (x:ByteArray) (n:Int) (hl:l = []∨l = [(x,n)]) (y:ByteArray) (h:(findS (addTop s l) y).isSome=true):y=x∨(findS s y).isSome=true:=by
 rcases hl with rfl | rfl
 ·rw[addTop_nil]at h
  exact .inr h
 ·cases s with
  | nil=>exact .inr h
  | cons l0 s =>
   have e:addTop (l0 :: s) [(x,n)] =(setL l0 x n) :: s:=rfl;rw[e,findS]at h
   by_cases hy:y=x
   ·exact .inl hy
   ·right
    have:layM (setL l0 x n) y=layM l0 y:=by
     show lookL (setL l0 x n) y=lookL l0 y;rw[lookL_setL,if_neg hy]
    rw[this]at h;rw[findS];exact h
theorem varLay_two (G:Glob) (t:Tree) (s:Scope) (n:Nat):varLay G t s n = []∨varLay G t s n = [(t.text,(n:Int))]:=by
 unfold varLay;split
 ·exact .inl rfl
 ·exact .inr rfl
def addN (t:Tree) (S:List (List ByteArray)):List (List ByteArray):=if t.kind=12 then (match S with | []=>[] | l :: S=>(l ++ [t.text]) :: S) else S
theorem any_addN {t:Tree} {S:List (List ByteArray)} {y:ByteArray} (h:(S.any fun l=>l.contains y)=true):((addN t S).any fun l=>l.contains y)=true:=by
 unfold addN;split
 ·cases S with
  | nil=>exact h
  | cons l S =>
   show (((l ++ [t.text]) :: S).any fun l=>l.contains y)=true;rw[List.any_cons,Bool.or_eq_true]at h ⊢
   rcases h with h | h
   ·left
    rw[List.contains_iff_mem]at h ⊢;exact List.mem_append_left _ h
   ·exact .inr h
 ·exact h
theorem any_addN_new {t:Tree} (hk:t.kind=12) (l:List ByteArray) (S:List (List ByteArray)):((addN t (l :: S)).any fun l=>l.contains t.text)=true:=by
 unfold addN;rw[if_pos hk];show (((l ++ [t.text]) :: S).any fun l=>l.contains t.text)=true;rw[List.any_cons,Bool.or_eq_true]
 left
 rw[List.contains_iff_mem];simp
theorem Cov.next {σ:ByteArray→Prop} {l:List ByteArray} {S:List (List ByteArray)} {s:Scope} (h:Cov σ (l :: S) s) (G:Glob) (t:Tree) (i:Bool) (r:RS) (hin:InB t=true):Cov σ (addN t (l :: S)) (visitM G i t s r).2:=by
 intro y hy;rw[scope_visit G t i s r hin]at hy
 by_cases h12:t.kind=12
 ·rw[if_pos h12]at hy
  rcases findS_addTop s _ t.text (r.next:Int) (varLay_two G t s r.next) y hy with e | e
  ·left
   rw[e];exact any_addN_new h12 l S
  ·rcases h y e with h | h
   ·exact .inl (any_addN h)
   ·exact .inr h
 ·rw[if_neg h12]at hy
  rcases h y hy with h | h
  ·exact .inl (any_addN h)
  ·exact .inr h
theorem addN_cons (t:Tree) (l:List ByteArray) (S:List (List ByteArray)):∃ l2,addN t (l :: S)=l2 :: S:=by
 unfold addN;split
 ·exact⟨_,rfl⟩
 ·exact⟨_,rfl⟩
theorem freesM_cons (k:Int) (x:ByteArray) (t:Tree) (ts:List Tree) (i:Nat) (S:List (List ByteArray)) (out:List ByteArray) :
 freesM k x (t :: ts) i S out=freesM k x ts (i+1) (addN t S) (freeM t (if k=16∧i=2 then [x] :: S else S) out):=by
 first | rfl | (rw[freesM.eq_def];rfl)
mutual
theorem free_visit (G:Glob) (i:Bool) (σ:ByteArray→Prop):∀ (t:Tree) (S:List (List ByteArray)) (s:Scope) (r:RS) (out:List ByteArray),InB t=true→Clean r (visitM G i t s r).1→Cov σ S s→∀ w ∈ freeM t S out,w ∈ out∨σ w
 | .node k x a e kids,S,s,r,out,hin,hc,hcov=>by
  obtain⟨hk,h12,h16,hno,hks⟩:=(inB_parts hin)
  rw[visit_B G k x a e kids i s r hin]at hc;rw[freeM]
  have whole:∀ (s':Scope) (u:RS) (o:List ByteArray),k≠16→Rng r u→Clean r (visitsM G i kids 0 kids.length s' u).1→Cov σ ([] :: S) s'→∀ w ∈ freesM k x kids 0 ([] :: S) o,w ∈ o∨σ w:=fun s' u o h16 hr hc hv =>
   free_visits G i σ k x kids 0 [] S s' u o hks h16 (Clean.split hr (visits_rng G kids i 0 kids.length s' u) hc).2 hv
  by_cases h11:k=11
  ·rw[if_pos h11]at hc
   rw[if_neg (show ¬ k=20 by omega)];exact whole ([] :: s) _ out (by omega) (rng_ent _ _ _) hc (fun y hy=>hcov.push y hy)
  rw[if_neg h11]at hc
  by_cases hk12:k=12
  ·rw[if_pos hk12]at hc
   rw[if_neg (show ¬ k=20 by omega)];exact whole s _ out (by omega) (rng_var G r i (sortI (allS s)) 4 (.node k x a e kids) ([] :: s)) hc hcov.push
  rw[if_neg hk12]at hc
  by_cases hk16:k=16
  ·rw[if_pos hk16]at hc
   rw[if_neg (show ¬ k=20 by omega)];have hr:=rng_var G r i (sortI (allS s)) 5 (.node k x a e kids) ([] :: s);have hl:=h16 hk16;have hnk:=hno h11
   match kids,hl,hks,hnk,hc,hr with
   | [b,c,d],_,hks,hnk,hc,hr =>
    rw[InBs,InBs,InBs,Bool.and_eq_true,Bool.and_eq_true,Bool.and_eq_true]at hks;obtain⟨hb,hcc,hd,-⟩:=hks
    obtain⟨u,hu⟩:∃ u,(variableM G (entM r i (sortI (allS s))) 5 r.next (.node k x a e [b,c,d]) ([] :: s)).1=u:=⟨_,rfl⟩
    rw[hu]at hc hr
    have sb:(visitM G i b s u).2=s:=by rw[scope_visit G b i s u hb,if_neg (hnk b (by simp))]
    have hv2:visitsM G i [b,c,d] 0 2 s u=visitM G i c s (visitM G i b s u).1:=by
     rw[visitsM,visitsM,visitsM,sb]
    rw[hv2]at hc
    have hv3:∀ s' u',visitsM G i [b,c,d] 2 1 s' u'=visitM G i d s' u':=fun s' u'=>by rw[visitsM,visitsM,visitsM,visitsM]
    rw[hv3]at hc;have r1:=visit_rng G b i s u;have r2:=visit_rng G c i s (visitM G i b s u).1;have r3:=visit_rng G d i (varLay G (.node k x a e [b,c,d]) s r.next :: s) (visitM G i c s (visitM G i b s u).1).1;obtain⟨hc12,hc3⟩:=Clean.split (hr.trans (r1.trans r2)) r3 hc;obtain⟨-,hc12⟩:=Clean.split hr (r1.trans r2) hc12;obtain⟨hc1,hc2⟩:=Clean.split r1 r2 hc12
    have nb:addN b ([] :: S) = [] :: S:=by unfold addN;rw[if_neg (hnk b (by simp))]
    have nc:addN c ([] :: S) = [] :: S:=by unfold addN;rw[if_neg (hnk c (by simp))]
    rw[freesM_cons,freesM_cons,freesM_cons,nb,nc,freesM,if_neg (fun (h:k=16∧(0:Nat)=2)=>absurd h.2 (by decide)),if_neg (fun (h:k=16∧(0+1:Nat)=2)=>absurd h.2 (by decide)),if_pos (show k=16∧(0+1+1:Nat)=2 from ⟨hk16,rfl⟩)];intro w hw
    have hcd:Cov σ ([x] :: [] :: S) (varLay G (.node k x a e [b,c,d]) s r.next :: s):=by
     intro y hy
     rcases varLay_two G (.node k x a e [b,c,d]) s r.next with e1 | e1
     ·rw[e1]at hy
      rcases hcov y hy with h | h
      ·left
       rw[List.any_cons,List.any_cons,h,Bool.or_true,Bool.or_true]
      ·exact .inr h
     ·rw[e1]at hy
      rcases findS_cons_one s _ _ y hy with h | h
      ·left
       rw[List.any_cons,h];simp[Tree.text]
      ·rcases hcov y h with h | h
       ·left
        rw[List.any_cons,List.any_cons,h,Bool.or_true,Bool.or_true]
       ·exact .inr h
    rcases free_visit G i σ d ([x] :: [] :: S) _ _ _ hd hc3 hcd w hw with h | h
    ·rcases free_visit G i σ c ([] :: S) s _ _ hcc hc2 hcov.push w h with h | h
     ·exact free_visit G i σ b ([] :: S) s _ _ hb hc1 hcov.push w h
     ·exact .inr h
    ·exact .inr h
  rw[if_neg hk16]at hc;intro w hw;have hr:=rng_useN G s r i (sortI (allS s)) (.node k x a e kids)
  rcases whole s _ _ hk16 hr hc hcov.push w hw with h | h
  ·by_cases h20:k=20
   ·rw[if_pos h20]at h
    split at h
    ·exact .inl h
    ·rename_i hn
     rcases List.mem_append.1 h with h | h
     ·exact .inl h
     ·rw[List.mem_singleton]at h
      right
      subst h;have hcu:=(Clean.split hr (visits_rng G kids i 0 kids.length s _) hc).1
      have huse:useN G s r (entM r i (sortI (allS s))) (.node k w a e kids)=useM (entM r i (sortI (allS s))) r.next (.node k w a e kids) (findS s w):=by
       unfold useN;rw[if_pos (show (Tree.node k w a e kids).kind=20 from h20)];rfl
      rw[huse]at hcu;rw[Bool.or_eq_true,not_or]at hn
      cases hf:findS s w with
      | none =>
       rw[hf]at hcu;unfold Clean at hcu;simp[useM,sayM,entM]at hcu
      | some n =>
       rcases hcov w (by rw[hf];rfl) with h | h
       ·exact absurd h hn.1
       ·exact h
   ·rw[if_neg h20]at h
    exact .inl h
  ·exact .inr h
theorem free_visits (G:Glob) (i:Bool) (σ:ByteArray→Prop) (k:Int) (x:ByteArray):∀ (ts:List Tree) (j:Nat) (l:List ByteArray) (S:List (List ByteArray)) (s:Scope) (r:RS) (out:List ByteArray),InBs ts=true→k≠16→Clean r (visitsM G i ts 0 ts.length s r).1→Cov σ (l :: S) s →
 ∀ w ∈ freesM k x ts j (l :: S) out,w ∈ out∨σ w
 | [],j,l,S,s,r,out,_,_,_,_=>by
  rw[freesM]
  exact fun w hw=>.inl hw
 | t :: ts,j,l,S,s,r,out,hin,hk,hc,hcov=>by
  rw[InBs,Bool.and_eq_true]at hin;rw[List.length_cons,visitsM]at hc;have hr1:=visit_rng G t i s r;have hr2:=visits_rng G ts i 0 ts.length (visitM G i t s r).2 (visitM G i t s r).1;obtain⟨hc1,hc2⟩:=Clean.split hr1 hr2 hc;rw[freesM_cons,if_neg (fun h=>hk h.1)];obtain⟨l2,hl2⟩:=addN_cons t l S;have hcn:=hcov.next G t i r hin.1;rw[hl2]at hcn ⊢;intro w hw
  rcases free_visits G i σ k x ts (j+1) l2 S _ _ _ hin.2 hk hc2 hcn w hw with h | h
  ·exact free_visit G i σ t (l :: S) s r out hin.1 hc1 hcov w h
  ·exact .inr h
end
theorem idx_look:∀ (ds:List Dc) (i:Nat) (l:List (Int × Int)) (u:Int),(ds.map (·.node)).Nodup→lookL (idxL ds i l) u=match ds.findIdx? fun d=>decide (d.node=u) with | some j=>some ((i+j:Nat):Int) | none=>lookL l u
 | [],i,l,u,_=>by simp[idxL]
 | d :: ds,i,l,u,hn=>by
  rw[List.map_cons,List.nodup_cons]at hn;rw[idxL,idx_look ds (i+1) _ u hn.2,List.findIdx?_cons]
  by_cases h:d.node=u
  ·have hnone:(ds.findIdx? fun d=>decide (d.node=u))=none:=by
    rw[List.findIdx?_eq_none_iff];intro y hy;rw[decide_eq_false_iff_not]
    exact fun e=>hn.1 (by rw[h,← e];exact List.mem_map.2 ⟨y,hy,rfl⟩)
   rw[hnone,if_pos (by simp[h])];simp only;rw[lookL_setL,if_pos h.symm];rfl
  ·rw[if_neg (by simp[h])]
   cases hf:ds.findIdx? fun d=>decide (d.node=u) with
   | none =>
    simp only[Option.map_none];rw[lookL_setL,if_neg (fun e=>h e.symm)]
   | some j =>
    simp only[Option.map_some]
    congr 2
    omega
theorem toIdx_at {ds:List Dc} (hn:(ds.map (·.node)).Nodup) {j:Nat} {d:Dc} (hd:ds[j]? = some d):toIdx ds d.node=(j:Int):=by
 unfold toIdx;rw[idx_look ds 0 _ _ hn]
 have hf:(ds.findIdx? fun x=>decide (x.node=d.node))=some j:=by
  obtain⟨hlt,he⟩:=List.getElem?_eq_some_iff.1 hd;rw[List.findIdx?_eq_some_iff_getElem];refine⟨hlt,by rw[he];simp,fun q hq=>?_⟩;rw[decide_eq_true_eq];intro e;have h1:=List.pairwise_iff_getElem.1 hn q j (by simp;omega) (by simpa using hlt) hq;simp only[List.getElem_map]at h1;exact h1 (by rw[e,he])
 rw[hf];simp
theorem lookL_mapv {V W:Type} (f:V→W):∀ (l:List (Int × V)) (k:Int),lookL (l.map fun x=>(x.1,f x.2)) k=(lookL l k).map f
 | [],_=>rfl
 | x :: l,k=>by
  rw[List.map_cons,lookL,lookL]
  by_cases h:k=x.1
  ·rw[if_pos h,if_pos h];rfl
  ·rw[if_neg h,if_neg h,lookL_mapv f l k]
theorem resolve_state (x:ByteArray) (a e:Int) (ks:List Tree) :
 (visitM (collectM (.node 2 x a e ks)) false (.node 2 x a e ks) [] ⟨[],List.replicate (countM (.node 2 x a e ks)) (-1),[],[],0,0⟩).1=(visitsM (globM ks) false ks 0 ks.length [] ⟨[],List.replicate (countM (.node 2 x a e ks)) (-1),[],[],1,0⟩).1:=by
 simp only[visitM];rfl
theorem at_prog {t:Tree} (hv:validM t=true) (hc:(resolveM t).probs = []) {m:Nat} {y:Tree} (hy:(nodesM t)[m]? = some y) (h11:11≤y.kind) :
 ∃ (G:Glob) (r0 q:RS),resolveM t = { q with uses:=q.uses.map (toIdx q.ds),vis:=q.vis.map fun x=>(x.1,x.2.map (toIdx q.ds)) } ∧ r0.ds = []∧r0.next=1∧Rng r0 q∧Clean r0 q∧AtN G true r0 q m (some y):=by
 obtain⟨h2,ht⟩:=topK_valid hv;unfold validM at hv;rw[Bool.and_eq_true]at hv;have hsh:=shaped_kids hv.2;obtain⟨k,x,a,e,ks⟩:=t;have hk:k=2:=h2;subst hk;have hst:=resolve_state x a e ks;refine⟨globM ks,⟨[],List.replicate (countM (.node 2 x a e ks)) (-1),[],[],1,0⟩,(visitsM (globM ks) false ks 0 ks.length [] ⟨[],List.replicate (countM (.node 2 x a e ks)) (-1),[],[],1,0⟩).1,?_,rfl,rfl,visits_rng _ _ _ _ _ _ _,?_⟩
 ·unfold resolveM
  rw[hst]
 ·have hcl:Clean (⟨[],List.replicate (countM (.node 2 x a e ks)) (-1),[],[],1,0⟩:RS) (visitsM (globM ks) false ks 0 ks.length [] ⟨[],List.replicate (countM (.node 2 x a e ks)) (-1),[],[],1,0⟩).1:=by
   unfold resolveM at hc;rw[hst]at hc;have hc':(visitsM (globM ks) false ks 0 ks.length [] ⟨[],List.replicate (countM (.node 2 x a e ks)) (-1),[],[],1,0⟩).1.probs = []:=hc;unfold Clean;rw[hc']
  refine⟨hcl,?_⟩
  have hm:1≤m:=by
   refine Nat.pos_of_ne_zero fun h0=>?_
   rw[h0,nodesM_eq,List.getElem?_cons_zero,Option.some.injEq]at hy;rw[← hy]at h11;have:(11:Int)≤2:=h11;omega
  refine at_top (globM ks) ks (fun c hc=>⟨hsh c hc,ht c hc⟩) _ hcl m y hm ?_ h11;rw[nodesM_eq]at hy
  obtain⟨j,hj⟩:∃ j,m=j+1:=⟨m - 1,by omega⟩
  rw[hj,List.getElem?_cons_succ]at hy;rw[← hy,hj];rfl
theorem allS_flat (s:Scope):allS s=s.flatten.map (·.2):=by
 unfold allS;rw[List.flatMap_def,List.map_flatten]
theorem findS_mem:∀ {s:Scope} {x:ByteArray} {n:Int},findS s x=some n→(x,n) ∈ s.flatten
 | [],_,_,h=>by cases h
 | l :: s,x,n,h=>by
  rw[findS]at h;rw[List.flatten_cons,List.mem_append]
  have hl:∀ {l:Lay} {n:Int},lookL l x=some n→(x,n) ∈ l:=by
   intro l
   induction l with
   | nil=>intro n h;cases h
   | cons y l ih =>
    intro n h;rw[lookL]at h
    by_cases hx:x=y.1
    ·rw[if_pos hx,Option.some.injEq]at h
     rw[hx,← h];simp
    ·rw[if_neg hx]at h
     exact List.mem_cons_of_mem _ (ih h)
  cases hq:layM l x with
  | some k =>
   rw[hq]at h;simp only[Option.some.injEq]at h;subst h;exact .inl (hl hq)
  | none =>
   rw[hq]at h;exact .inr (findS_mem h)
theorem rng_nodup {r0 q:RS} (h:Rng r0 q) (h0:r0.ds = []):(q.ds.map (·.node)).Nodup∧∀ d ∈ q.ds,(r0.next:Int)≤d.node:=by
 obtain⟨l,e,hp,hb⟩:=h.ds;rw[h0,List.nil_append]at e;rw[e];refine⟨?_,fun d hd=>(hb d hd).1⟩;refine List.Pairwise.map _ (fun a b hab=>?_) hp;omega
theorem vis_at {t:Tree} (hv:validM t=true) (hc:(resolveM t).probs = []) {m:Nat} {y:Tree} (hy:(nodesM t)[m]? = some y) (h11:11≤y.kind) :
 ∃ (G:Glob) (s':Scope) (r' q:RS),InB y=true∧r'.next=m∧Clean r' (visitM G true y s' r').1∧ScInv s' q∧(resolveM t).ds=q.ds∧(q.ds.map (·.node)).Nodup∧lookL (resolveM t).vis (m:Int)=some ((sortI (allS s')).map (toIdx q.ds)):=by
 obtain⟨G,r0,q,hres,h0,h1,hrng,hcl,x,s',r',hx,hin,hn,k1,k2,hsc⟩:=at_prog hv hc hy h11;simp only[Option.some.injEq]at hx;subst hx;obtain⟨hnd,-⟩:=rng_nodup hrng h0;have hrv:=visit_rng G y true s' r';refine⟨G,s',r',q,hin,hn,?_,hsc.mono (hrv.trans k2),by rw[hres],hnd,?_⟩
 ·exact(Clean.split hrv k2 (Clean.split k1 (hrv.trans k2) hcl).2).1
 ·rw[hres]
  show lookL (q.vis.map fun x=>(x.1,x.2.map (toIdx q.ds))) (m:Int)=_;rw[lookL_mapv (fun l:List Int=>l.map (toIdx q.ds))];have h2:=next_visit G y true s' r' hin;have h3:=countM_one y;rw[k2.vis m (.inl (by omega)),← hn,vis_self];rfl
theorem free_law {t:Tree} (hv:validM t=true) (hc:(resolveM t).probs = []) {m:Nat} {y:Tree} (hy:(nodesM t)[m]? = some y) (h11:11≤y.kind) :
 (∀ d ∈ (lookL (resolveM t).vis (m:Int)).getD [],0≤d∧d < ((resolveM t).ds.length:Int))∧∀ w ∈ freeM y [] [],∃ j:Nat,(j:Int) ∈ (lookL (resolveM t).vis (m:Int)).getD []∧∃ d,(resolveM t).ds[j]? = some d∧d.name=w:=by
 obtain⟨G,s',r',q,hin,hn,hcl,hsc,hds,hnd,hvis⟩:=vis_at hv hc hy h11;rw[hvis,hds]
 have hat:∀ z ∈ s'.flatten,∃ (j:Nat) (d:Dc),q.ds[j]? = some d∧d.name=z.1∧toIdx q.ds z.2=(j:Int):=fun z hz=>by
  obtain⟨d,hd,h1,h2⟩:=hsc.decl z hz;obtain⟨j,hj⟩:=List.mem_iff_getElem?.1 hd;exact⟨j,d,hj,h2,by rw[← h1];exact toIdx_at hnd hj⟩
 have hmem:∀ z ∈ s'.flatten,toIdx q.ds z.2 ∈ (sortI (allS s')).map (toIdx q.ds):=fun z hz=>by
  refine List.mem_map.2 ⟨z.2,?_,rfl⟩;unfold sortI;rw[(List.mergeSort_perm _ _).mem_iff,allS_flat];exact List.mem_map.2 ⟨z,hz,rfl⟩
 refine⟨fun d hd=>?_,fun w hw=>?_⟩
 ·simp only[Option.getD_some]at hd
  obtain⟨u,hu,rfl⟩:=List.mem_map.1 hd;unfold sortI at hu;rw[(List.mergeSort_perm _ _).mem_iff,allS_flat]at hu;obtain⟨z,hz,rfl⟩:=List.mem_map.1 hu;obtain⟨j,d,hj,-,he⟩:=hat z hz;rw[he];have:=(List.getElem?_eq_some_iff.1 hj).1;omega
 ·rcases free_visit G true (fun y=>(findS s' y).isSome=true) y [] s' r' [] hin hcl (fun y hy=>.inr hy) w hw with h | h
  ·cases h
  ·obtain⟨n,hf⟩:=Option.isSome_iff_exists.1 h
   have hz:=findS_mem hf;obtain⟨j,d,hj,hnm,he⟩:=hat _ hz;refine⟨j,?_,d,hj,hnm⟩;have:=hmem _ hz;rw[he]at this;exact this
end Go.Proofs.YtoepemlnlpamlaaGreat
namespace Go.Proofs.YtoepemlnlpamlaaGreat
set_option maxRecDepth 100000
set_option maxHeartbeats 4000000
open Go.RowKit
def FX (base ob:Nat) (M:Nat→Prop) (w w':World):Prop:=Since (fun g=>(g=ob∨(base≤g∧∃ cs fr,w.heap[g]? = some (.cells cs 9 fr)))∨M g) w w'
section
variable {base ob:Nat} {M M':Nat→Prop} {w w1 w':World}
theorem FX.refl (base ob:Nat) (M:Nat→Prop) (w:World):FX base ob M w w:=Since.refl _ _
theorem FX.trans (h:FX base ob M w w1) (k:FX base ob M' w1 w') (hM:∀ g,M' g→M g∨w.heap.size≤g):FX base ob M w w':=by
 refine⟨k.os.trans h.os,k.tape.trans h.tape,k.output.trans h.output,Nat.le_trans h.size k.size,fun g hg hn=>?_⟩;have h1:=h.block g hg hn
 have h2:=k.block g (Nat.lt_of_lt_of_le hg h.size) (fun h3=>hn (by
  rcases h3 with (h3 | ⟨h4,cs,fr,h5⟩) | h3
  ·exact .inl (.inl h3)
  ·exact .inl (.inr ⟨h4,cs,fr,by rw[← h1];exact h5⟩)
  ·rcases hM g h3 with h6 | h6
   ·exact .inr h6
   ·omega))
 rw[h2,h1]
theorem FX.of_below (hb:Below w.heap.size w w'):FX base ob M w w':=(Since.refl _ _).below hb
theorem FX.map_ (h:Since M w w'):FX base ob M w w':=Since.mono h fun _ h1=>.inr h1
theorem FX.low (h:FX base ob M w w') {B:Nat} (hB:B≤w.heap.size) (h1:B≤ob) (h2:B≤base) (hM:∀ g,M g→B≤g):Below B w w':=Since.toBelow h hB fun g hg=>by
 rcases hg with (hg | hg) | hg
 ·omega
 ·exact Nat.le_trans h2 hg.1
 ·exact hM g hg
theorem FX.blk (h:FX base ob M w w') {g:Nat} {t:TypeId} {cs:Array Value} (hb:Blk w g t cs) (ht:t≠9) (ho:g≠ob) (hM:¬ M g):Blk w' g t cs:=by
 refine Blk.since hb h fun h1=>?_
 rcases h1 with (h1 | ⟨-,cs',fr,h1⟩) | h1
 ·exact ho h1
 ·have e2:w.heap[g]? = some (Obj.cells _ _ (0,0)):=hb
  rw[e2]at h1;simp only[Option.some.injEq,Obj.cells.injEq]at h1;exact ht h1.2.1
 ·exact hM h1
theorem FX.amap (h:FX base ob M w w') {K:Type} [DecidableEq K] {KK:KeyK K} {r:Nat} {m:List (K × Value)} (ha:AMap KK w r m) {t:TypeId} {cs:Array Value} (hob:Blk w ob t cs) (hM:¬ M r):AMap KK w' r m:=by
 refine ha.since h fun h1=>?_
 rcases h1 with (h1 | ⟨-,cs',fr,h1⟩) | h1
 ·exact ha.not_blk hob h1
 ·obtain⟨es,ck,ho⟩:=ha.isMap
  rw[ho]at h1
  cases h1
 ·exact hM h1
theorem Blk.ne_of {g g':Nat} {t t':TypeId} {cs cs':Array Value} (h:Blk w g t cs) (h':Blk w g' t' cs') (ht:t≠t'):g≠g':=fun e=>by
 have e1:w.heap[g]? = some (Obj.cells _ _ (0,0)):=h;have e2:w.heap[g']? = some (Obj.cells _ _ (0,0)):=h';rw[e,e2]at e1;simp only[Option.some.injEq,Obj.cells.injEq]at e1;exact ht e1.2.1.symm
theorem FX.sc (h:FX base ob M w w') {cs:Array Value} (hob:Blk w ob 41 cs) (hMb:∀ g t cs,Blk w g t cs→¬ M g):∀ {s:Scope} {p:Option Addr} {ms:List Nat},ScAt w base p s ms→(∀ m ∈ ms,¬ M m)→ScAt w' base p s ms
 | [],_,_,hs,_=>hs
 | _ :: _,_,_,⟨b,m,p',ms',h1,h2,h3,h4,h5,h6,h7⟩,hms=>by
  subst h2;exact⟨b,m,p',ms',h1,rfl,h3,h4,h.blk h5 (by decide) (h5.ne_of hob (by decide)) (hMb _ _ _ h5),h.amap h6 hob (hms m (by simp)),FX.sc h hob hMb h7 fun x hx=>hms x (by simp[hx])⟩
end
theorem strg_info:(Tryz.prog.info? 9).map (fun i=>(i.zero,i.size,i.bytes))=some (some (.string ⟨#[]⟩),1,16):=by kernel_rfl
def OutAt (base ob:Nat) (out:List ByteArray) (w:World):Prop:=∃ A n c,Blk w ob 41 #[.slice A n c]∧OwnS w base 9 1 (.slice A n c) n (out.flatMap strCells)
theorem OutAt.below {base ob:Nat} {out:List ByteArray} {w w':World} (h:OutAt base ob out w) (hb:Below w.heap.size w w'):OutAt base ob out w':=by
 obtain⟨A,n,c,h1,h2⟩:=h;exact⟨A,n,c,h1.below hb h1.lt,h2.below hb fun g hg=>(h2.lt g hg).2⟩
def addF (s:Scope) (x:ByteArray) (out:List ByteArray):List ByteArray:=if (findS s x).isSome || hasA out x then out else out ++ [x]
theorem strs_len (l:List ByteArray):(l.flatMap strCells).length=l.length:=by
 induction l with
 | nil=>rfl
 | cons a l ih=>rw[List.flatMap_cons,List.length_append,ih,List.length_cons];simp[strCells];omega
theorem add_any (base ob:Nat) (out:List ByteArray) (s:Scope) (p:Option Addr) (ms:List Nat) (x:ByteArray) (w:World) (hs:ScAt w base p s ms) (ho:OutAt base ob out w) (hb:base≤w.heap.size) (hm:out.length≤1000000) :
 Calls Tryz.prog 44 #[.string x,.pointer p,.pointer (some ⟨ob,0,none⟩)] w fun e w'=>e = .returned (.tuple #[])∧OutAt base ob (addF s x out) w'∧FX base ob (fun _=>False) w w':=by
 obtain⟨i0,hi0,hz0,hz1,hz2⟩:=info_parts strg_info;have hf:=find_any base x w s p ms hs;obtain⟨A,n,c,hblk,hown⟩:=ho
 have hn:n=out.length:=by have:=hown.1;rw[strs_len]at this;omega
 unfold addF
 generalize findS s x=fo at hf ⊢
 obtain⟨hb0,hhb⟩:∃ q,hasA out x=q:=⟨_,rfl⟩
 rw[hhb];have hcon:=containsS_any A n c out x w (hown.rowAt (cells:=strCells) (l:=out) rfl rfl (fun _ _=>rfl) hn.symm) hn.symm (by omega);rw[hhb]at hcon;have c0:=hblk.cell 0;have f0:=hblk.frozen 0;have lo:=hblk.lt;have HF:=kH hf;have HC:=kH hcon;have HB:=kH hblk;have HO:=kH hown;have HN:=kH hn;clear hf hcon hblk hown hhb hs hn
 cases fo with
 | some y =>
  simp only[Option.isSome_some,Bool.true_or,if_true]at HF ⊢
  go_enter Tryz.func44,Tryz.ntmps44
  go_wp2_with fail
  refine HF.out.mono ?_;rintro e w2 ⟨rfl,hw2⟩;obtain rfl:w=w2:=hw2.symm
  go_wp2_with fail
  go_end0
  exact⟨rfl,⟨A,n,c,HB.out,HO.out⟩,FX.refl _ _ _ _⟩
 | none =>
  simp only[Option.isSome_none,Bool.false_or]at HF ⊢
  cases hb0 with
  | true =>
   simp only[if_true]
   go_enter Tryz.func44,Tryz.ntmps44
   go_wp2_with fail
   refine HF.out.mono ?_;rintro e w2 ⟨rfl,hw2⟩;obtain rfl:w=w2:=hw2.symm
   go_wp2_with fail
   refine HC.out.mono ?_;rintro e w2 ⟨rfl,hw2⟩;subst hw2
   go_wp2_with fail
   go_end0
   exact⟨rfl,⟨A,n,c,HB.out,HO.out⟩,FX.refl _ _ _ _⟩
  | false =>
   simp only[Bool.false_eq_true,if_false]
   have hnm:n≤1000000:=by have:=HN.out;omega
   go_enter Tryz.func44,Tryz.ntmps44
   go_wp2_with fail
   refine HF.out.mono ?_;rintro e w2 ⟨rfl,hw2⟩;obtain rfl:w=w2:=hw2.symm
   go_wp2_with fail
   refine HC.out.mono ?_;rintro e w2 ⟨rfl,hw2⟩;subst hw2
   go_wp2_with (at_builtin;go_must (refine wpList_append_S _ rfl (.tmp 21) (.tmp 23) _ rfl base 9 i0 _ 1 16 Tryz.underlying41 hi0 hz0 hz1 hz2 rfl (.slice A n c) n (out.flatMap strCells) rfl (HO.out.alloc _) ⟨_,0,none⟩ 1 1 [.string x] rfl rfl (news_one _ _ _ (by go_simp)) (by simp[Value.oneCell']) (by simp only[maxLen];omega) (by omega) (by simp;omega) ?_);intro vn w6 hown hgrow hat;obtain⟨A6,c6,hvn,-,-⟩:=hown.shape;subst hvn;have HOWN:=kH hown;have HGROW:=kH hgrow;have hB6:=Blk.grown (Blk.alloc HB.out _) hgrow (fun e1=>HO.out.ne_blk HB.out (by decide) e1.symm);have q4:=hB6.cell 0;have q5:=hB6.frozen 0;have q6:=hB6.lt;have HB6:=kH hB6;clear hown hgrow hat hB6)
   go_end0
   refine⟨rfl,⟨A6,n+1,c6,?_,?_⟩,?_⟩
   ·have:=HB6.out.set_ 0 (.slice A6 (n+1) c6)
    simpa using this
   ·have h1:=HOWN.out.setCell (p:=⟨ob,0,none⟩) (HOWN.out.ne_blk HB6.out (by decide)) (.slice A6 (n+1) c6)
    rw[List.flatMap_append];exact h1
   ·have h0:=HO.out
    refine Since.setCell (S:=fun g=>(g=ob∨(base≤g∧∃ cs fr,w.heap[g]? = some (.cells cs 9 fr)))∨False) ((Since.alloc (Since.refl _ w) _).grown HGROW.out (fun g hg=>.inl (.inl (.inr ?_)))) (p:=⟨ob,0,none⟩) (.inl (.inl (.inl rfl))) _;obtain⟨cur,hc⟩:=h0.obj g hg;exact⟨(h0.lt g hg).1,cur,(0,0),hc⟩
end Go.Proofs.YtoepemlnlpamlaaGreat
