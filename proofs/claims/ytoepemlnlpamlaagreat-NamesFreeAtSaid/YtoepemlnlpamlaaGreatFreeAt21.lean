/- The law NamesFreeAt holds: for every text and every number the law returns true, and its arguments read as before. No condition. Part 21: At1 VisM Ord3 Nam8. -/
import Derived.Test.YtoepemlnlpamlaaGreatFreeAt20
namespace Go.Proofs.YtoepemlnlpamlaaGreat
set_option maxRecDepth 100000
set_option maxHeartbeats 4000000
structure Steps (R:RS→RS→Prop):Prop where
 refl:∀ r,R r r
 trans:∀ {a b c},R a b→R b c→R a c
 none_:∀ (r:RS) (i:Bool) (v:List Int),R r (entM r i v)
 say:∀ (r:RS) (i:Bool) (v:List Int) (c:Int) (t:Tree),R r (sayM (entM r i v) c r.next t)
 decl:∀ (r:RS) (i:Bool) (v:List Int) (c:Int) (t:Tree),R r (declM (entM r i v) c r.next t)
 use:∀ (r:RS) (i:Bool) (v:List Int) (k:Int),R r { entM r i v with uses:=r.uses.set r.next k }
 owner:∀ (r:RS) (o:Int),R r { r with owner:=o }
section
variable {R:RS→RS→Prop} (hR:Steps R)
include hR
theorem Steps.declare (r:RS) (i:Bool) (v:List Int) (c:Int) (t:Tree) (a:Bool):R r (declareM (entM r i v) c r.next t a):=by
 cases a
 ·exact hR.decl r i v c t
 ·exact hR.say r i v 9 t
theorem Steps.variable_ (G:Glob) (r:RS) (i:Bool) (v:List Int) (c:Int) (t:Tree) (s:Scope):R r (variableM G (entM r i v) c r.next t s).1:=by
 unfold variableM;split
 ·exact hR.say r i v 9 t
 ·exact hR.decl r i v c t
theorem Steps.useM_ (r:RS) (i:Bool) (v:List Int) (t:Tree) (tow:Option Int):R r (useM (entM r i v) r.next t tow):=by
 cases tow with
 | none=>exact hR.say r i v 8 t
 | some k=>exact hR.use r i v k
mutual
theorem visit_rel (G:Glob):∀ (t:Tree) (i:Bool) (s:Scope) (r:RS),R r (visitM G i t s r).1
 | .node k x a e kids,i,s,r=>by
  have hb:∀ u f n s',R r u→R r (visitsM G i kids f n s' u).1:=fun u f n s' hu=>hR.trans hu (visits_rel G kids i f n s' u)
  have hd:∀ c a',R r { declareM (entM r i (sortI (allS s))) c r.next (.node k x a e kids) a' with owner:=(r.next:Int) }:=fun c a'=>hR.trans (hR.declare r i _ c _ a') (hR.owner _ _)
  have hv:∀ c s',R r (variableM G (entM r i (sortI (allS s))) c r.next (.node k x a e kids) s').1:=fun c s'=>hR.variable_ G r i _ c _ s'
  have hu:∀ tow,R r (useM (entM r i (sortI (allS s))) r.next (.node k x a e kids) tow):=fun tow=>hR.useM_ r i _ _ tow
  rw[visitM_eq];split
  ·exact hb _ _ _ _ (hd _ _)
  split
  ·exact hb _ _ _ _ (hR.declare r i _ _ _ _)
  split
  ·exact hR.trans (hR.trans (hd _ _) (visits_rel G kids false 0 2 _ _)) (visits_rel G kids true 2 1 _ _)
  split
  ·exact hb _ _ _ _ (hv _ _)
  split
  ·exact hb _ _ _ _ (hR.none_ r i _)
  split
  ·exact hb _ _ _ _ (hv _ _)
  split
  ·exact hR.trans (hb _ _ _ _ (hv _ _)) (visits_rel G kids i 2 1 _ _)
  ·refine hb _ _ _ _ ?_
   unfold useN;split
   ·exact hu _
   split
   ·exact hu _
   split
   ·exact hu _
   split
   ·exact hu _
   split
   ·exact hu _
   ·exact hR.none_ r i _
theorem visits_rel (G:Glob):∀ (ts:List Tree) (i:Bool) (f n:Nat) (s:Scope) (r:RS),R r (visitsM G i ts f n s r).1
 | [],_,_,_,_,r=>by rw[visitsM];exact hR.refl r
 | t :: ts,i,f+1,n,s,r=>by rw[visitsM];exact visits_rel G ts i f n s r
 | t :: ts,i,0,0,s,r=>by rw[visitsM];exact hR.refl r
 | t :: ts,i,0,n+1,s,r=>by rw[visitsM];exact hR.trans (visit_rel G t i s r) (visits_rel G ts i 0 n _ _)
end
end
structure Rng (a b:RS):Prop where
 next:a.next≤b.next
 probs:∃ l,b.probs=a.probs ++ l∧(l.Pairwise fun x y=>x.1 < y.1)∧∀ x ∈ l,(a.next:Int)≤x.1∧x.1 < (b.next:Int)
 ds:∃ l,b.ds=a.ds ++ l∧(l.Pairwise fun x y=>x.node < y.node)∧∀ d ∈ l,(a.next:Int)≤d.node∧d.node < (b.next:Int)
 ulen:b.uses.length=a.uses.length
 uses:∀ j,j < a.next∨b.next≤j→b.uses[j]? = a.uses[j]?
 vis:∀ m:Nat,m < a.next∨b.next≤m→lookL b.vis (m:Int)=lookL a.vis (m:Int)
theorem Rng.of_same {a b:RS} (h1:b.next=a.next) (h2:b.probs=a.probs) (h3:b.ds=a.ds) (h4:b.uses=a.uses) (h5:b.vis=a.vis):Rng a b :=
 ⟨by omega,⟨[],by simp[h2],List.Pairwise.nil,by simp⟩,⟨[],by simp[h3],List.Pairwise.nil,by simp⟩,by rw[h4],fun _ _=>by rw[h4],fun _ _=>by rw[h5]⟩
theorem Rng.trans {a b c:RS} (h:Rng a b) (k:Rng b c):Rng a c:=by
 have h1:=h.next;have k1:=k.next;obtain⟨lp,hp,hpw,hpb⟩:=h.probs;obtain⟨lq,kp,kpw,kpb⟩:=k.probs;obtain⟨ld,hd,hdw,hdb⟩:=h.ds;obtain⟨le,kd,kdw,kdb⟩:=k.ds;refine⟨by omega,⟨lp ++ lq,by rw[kp,hp,List.append_assoc],List.pairwise_append.2 ⟨hpw,kpw,fun x hx y hy=>?_⟩,fun x hx=>?_⟩,⟨ld ++ le,by rw[kd,hd,List.append_assoc],List.pairwise_append.2 ⟨hdw,kdw,fun x hx y hy=>?_⟩,fun x hx=>?_⟩,by rw[k.ulen,h.ulen],fun j hj=>?_,fun m hm=>?_⟩
 ·have:=(hpb x hx).2;have:=(kpb y hy).1;omega
 ·rcases List.mem_append.1 hx with hx | hx
  ·have:=hpb x hx;omega
  ·have:=kpb x hx;omega
 ·have:=(hdb x hx).2;have:=(kdb y hy).1;omega
 ·rcases List.mem_append.1 hx with hx | hx
  ·have:=hdb x hx;omega
  ·have:=kdb x hx;omega
 ·rw[k.uses j (by omega),h.uses j (by omega)]
 ·rw[k.vis m (by omega),h.vis m (by omega)]
theorem ent_vis (r:RS) (i:Bool) (v:List Int) (m:Nat) (h:m≠r.next):lookL (entM r i v).vis (m:Int)=lookL r.vis (m:Int):=by
 cases i
 ·rfl
 ·show lookL (setL r.vis (r.next:Int) v) (m:Int)=_
  rw[lookL_setL,if_neg (by omega)]
theorem set_far (l:List Int) (n:Nat) (k:Int) (j:Nat) (h:j≠n):(l.set n k)[j]? = l[j]? := by
 rw[List.getElem?_set];rw[if_neg (fun e=>h e.symm)]
theorem rng_steps:Steps Rng where
 refl:=fun r=>Rng.of_same rfl rfl rfl rfl rfl
 trans:=Rng.trans
 none_:=fun r i v=>⟨Nat.le_succ _,⟨[],by simp[entM],List.Pairwise.nil,by simp⟩,⟨[],by simp[entM],List.Pairwise.nil,by simp⟩,rfl,fun _ _=>rfl,fun m hm=>ent_vis r i v m (by have:(entM r i v).next=r.next+1:=rfl;omega)⟩
 say:=fun r i v c t=>⟨Nat.le_succ _,⟨_,rfl,List.pairwise_singleton _ _,fun x hx=>by
  rw[List.mem_singleton]at hx;subst hx;have:(sayM (entM r i v) c r.next t).next=r.next+1:=rfl;rw[this];simp only
  omega⟩,⟨[],by simp[entM,sayM],List.Pairwise.nil,by simp⟩,rfl,fun _ _=>rfl,fun m hm=>ent_vis r i v m (by have:(sayM (entM r i v) c r.next t).next=r.next+1:=rfl;omega)⟩
 decl:=fun r i v c t=>⟨Nat.le_succ _,⟨[],by simp[entM,declM],List.Pairwise.nil,by simp⟩,⟨_,rfl,List.pairwise_singleton _ _,fun x hx=>by
  rw[List.mem_singleton]at hx;subst hx;have:(declM (entM r i v) c r.next t).next=r.next+1:=rfl;rw[this];simp only
  omega⟩,List.length_set,fun j hj=>set_far _ _ _ _ (by have:(declM (entM r i v) c r.next t).next=r.next+1:=rfl;omega),fun m hm=>ent_vis r i v m (by have:(declM (entM r i v) c r.next t).next=r.next+1:=rfl;omega)⟩
 use:=fun r i v k=>⟨Nat.le_succ _,⟨[],by simp[entM],List.Pairwise.nil,by simp⟩,⟨[],by simp[entM],List.Pairwise.nil,by simp⟩,List.length_set,fun j hj=>set_far _ _ _ _ (by have:({ entM r i v with uses:=r.uses.set r.next k }:RS).next=r.next+1:=rfl;omega),fun m hm=>ent_vis r i v m (by have:({ entM r i v with uses:=r.uses.set r.next k }:RS).next=r.next+1:=rfl;omega)⟩
 owner:=fun r o=>Rng.of_same rfl rfl rfl rfl rfl
theorem visit_rng (G:Glob) (t:Tree) (i:Bool) (s:Scope) (r:RS):Rng r (visitM G i t s r).1:=visit_rel rng_steps G t i s r
theorem visits_rng (G:Glob) (ts:List Tree) (i:Bool) (f n:Nat) (s:Scope) (r:RS):Rng r (visitsM G i ts f n s r).1:=visits_rel rng_steps G ts i f n s r
end Go.Proofs.YtoepemlnlpamlaaGreat
namespace Go.Proofs.YtoepemlnlpamlaaGreat
set_option maxRecDepth 100000
set_option maxHeartbeats 4000000
mutual
def VOk (nl:Bool):Tree→Bool
 | .node k _ _ _ kids =>
  if k=5 then decide (kids.length=3) && VOks false kids
  else if k=11 then VOks false kids
  else if k=7∨k=8∨k=12∨k=16 then !nl && (decide (k≠12) || decide (kids.length=2)) && (decide (k≠16) || decide (kids.length=3)) && VOks nl kids
  else VOks nl kids
def VOks (nl:Bool):List Tree→Bool
 | []=>true
 | t :: ts=>VOk nl t && VOks nl ts
end
theorem VOks_mem {nl:Bool} {ts:List Tree}:VOks nl ts=true→∀ t ∈ ts,VOk nl t=true:=by
 induction ts with
 | nil=>intro _ t h;cases h
 | cons a ts ih =>
  intro h t ht;rw[VOks,Bool.and_eq_true]at h
  rcases List.mem_cons.1 ht with rfl | ht
  ·exact h.1
  ·exact ih h.2 t ht
theorem counts_append:∀ (a b:List Tree),countsM (a ++ b)=countsM a+countsM b
 | [],b=>by simp[countsM]
 | t :: a,b=>by
  rw[List.cons_append,countsM,countsM,counts_append a b];omega
theorem counts_parts (l:List Tree) (a b:Nat):countsM (l.take a)+countsM ((l.drop a).take b)≤countsM l:=by
 have h1:countsM (l.take a)+countsM (l.drop a)=countsM l:=by rw[← counts_append,List.take_append_drop]
 have h2:countsM ((l.drop a).take b)+countsM ((l.drop a).drop b)=countsM (l.drop a):=by rw[← counts_append,List.take_append_drop]
 omega
theorem head_next (r:RS) (i:Bool) (v:List Int) (c:Int) (t:Tree) (b:Bool):(declareM (entM r i v) c r.next t b).next=r.next+1:=by cases b <;> rfl
theorem varM_next (G:Glob) (r:RS) (i:Bool) (v:List Int) (c:Int) (t:Tree) (s:Scope):(variableM G (entM r i v) c r.next t s).1.next=r.next+1:=by
 unfold variableM
 split <;> rfl
theorem useN_next1 (G:Glob) (s:Scope) (r:RS) (i:Bool) (v:List Int) (t:Tree):(useN G s r (entM r i v) t).next=r.next+1:=by
 have hu:∀ tq,(useM (entM r i v) r.next t tq).next=r.next+1:=fun tq=>by cases tq <;> rfl
 unfold useN;split
 ·exact hu _
 split
 ·exact hu _
 split
 ·exact hu _
 split
 ·exact hu _
 split
 ·exact hu _
 ·rfl
mutual
theorem next_le (G:Glob):∀ (t:Tree) (i:Bool) (s:Scope) (r:RS),(visitM G i t s r).1.next≤r.next+countM t
 | .node k x a e kids,i,s,r=>by
  have hall:∀ s' (u:RS),u.next=r.next+1→(visitsM G i kids 0 kids.length s' u).1.next≤r.next+countM (.node k x a e kids):=fun s' u h=>by
   have:=nexts_le G kids i 0 kids.length s' u;rw[h]at this;simp only[List.drop_zero,List.take_length]at this;rw[countM];omega
  have htwo:∀ i1 i2 s1 s2 (u:RS),u.next=r.next+1→(visitsM G i2 kids 2 1 s2 (visitsM G i1 kids 0 2 s1 u).1).1.next≤r.next+countM (.node k x a e kids):=fun i1 i2 s1 s2 u h=>by
   have h1:=nexts_le G kids i1 0 2 s1 u;have h2:=nexts_le G kids i2 2 1 s2 (visitsM G i1 kids 0 2 s1 u).1;have h3:=counts_parts kids 2 1;rw[h]at h1;simp only[List.drop_zero]at h1;rw[countM];omega
  have hone:∀ s' (u:RS),u.next=r.next+1→(visitsM G i kids 0 2 s' u).1.next≤r.next+countM (.node k x a e kids):=fun s' u h=>by
   have h1:=nexts_le G kids i 0 2 s' u;have h3:=counts_parts kids 2 1;rw[h]at h1;simp only[List.drop_zero]at h1;rw[countM];omega
  rw[visitM_eq];split
  ·exact hall _ _ (head_next r i _ 0 _ _)
  split
  ·exact hall _ _ (head_next r i _ 1 _ _)
  split
  ·exact htwo _ _ _ _ _ (head_next r i _ 2 _ _)
  split
  ·exact hall _ _ (varM_next _ _ _ _ _ _ _)
  split
  ·exact hall _ _ rfl
  split
  ·exact hone _ _ (varM_next _ _ _ _ _ _ _)
  split
  ·exact htwo _ _ _ _ _ (varM_next _ _ _ _ _ _ _)
  ·exact hall _ _ (useN_next1 _ _ _ _ _ _)
theorem nexts_le (G:Glob):∀ (ts:List Tree) (i:Bool) (f n:Nat) (s:Scope) (r:RS),(visitsM G i ts f n s r).1.next≤r.next+countsM ((ts.drop f).take n)
 | [],_,_,_,_,_=>by rw[visitsM];simp
 | t :: ts,i,f+1,n,s,r=>by
  rw[visitsM,List.drop_succ_cons];exact nexts_le G ts i f n s r
 | t :: ts,i,0,0,s,r=>by rw[visitsM];simp
 | t :: ts,i,0,n+1,s,r=>by
  rw[visitsM];have h1:=next_le G t i s r;have h2:=nexts_le G ts i 0 n (visitM G i t s r).2 (visitM G i t s r).1;simp only[List.drop_zero,List.take_succ_cons,countsM]at h2 ⊢;omega
end
structure Slow (a b:RS):Prop where
 next:a.next≤b.next
 probs:b.probs.length+a.next≤a.probs.length+b.next
 ds:b.ds.length+a.next≤a.ds.length+b.next
 vis:(∀ x ∈ a.vis,x.1 < (a.next:Int))→∀ x ∈ b.vis,x.1 < (b.next:Int)
 ulen:b.uses.length=a.uses.length
theorem setL_mem {K V:Type} [DecidableEq K]:∀ (l:List (K × V)) (k:K) (v:V),∀ x ∈ setL l k v,x ∈ l∨x=(k,v)
 | [],k,v,x,h=>by
  rw[setL,List.mem_singleton]at h;exact .inr h
 | y :: l,k,v,x,h=>by
  rw[setL]at h
  by_cases hk:k=y.1
  ·rw[if_pos hk]at h
   rcases List.mem_cons.1 h with h | h
   ·exact .inr h
   ·exact .inl (List.mem_cons_of_mem _ h)
  ·rw[if_neg hk]at h
   rcases List.mem_cons.1 h with h | h
   ·exact .inl (by rw[h];simp)
   ·rcases setL_mem l k v x h with h | h
    ·exact .inl (List.mem_cons_of_mem _ h)
    ·exact .inr h
theorem ent_slow (r:RS) (i:Bool) (v:List Int) (h:∀ x ∈ r.vis,x.1 < (r.next:Int)):∀ x ∈ (entM r i v).vis,x.1 < ((r.next+1:Nat):Int):=by
 intro x hx;unfold entM at hx
 cases i
 ·have:=h x hx
  omega
 ·rcases setL_mem _ _ _ x hx with hx | rfl
  ·have:=h x hx
   omega
  ·simp
   omega
theorem slow_steps:Steps Slow where
 refl:=fun r=>⟨Nat.le_refl _,Nat.le_refl _,Nat.le_refl _,fun h=>h,rfl⟩
 trans:=fun h k=>⟨Nat.le_trans h.next k.next,by have:=h.probs;have:=k.probs;omega,by have:=h.ds;have:=k.ds;omega,fun hv=>k.vis (h.vis hv),by rw[k.ulen,h.ulen]⟩
 none_:=fun r i v=>⟨Nat.le_succ _,by show r.probs.length+r.next≤r.probs.length+(r.next+1);omega,by show r.ds.length+r.next≤r.ds.length+(r.next+1);omega,ent_slow r i v,rfl⟩
 say:=fun r i v c t=>⟨Nat.le_succ _,by simp[sayM,entM];omega,by show r.ds.length+r.next≤r.ds.length+(r.next+1);omega,ent_slow r i v,rfl⟩
 decl:=fun r i v c t=>⟨Nat.le_succ _,by show r.probs.length+r.next≤r.probs.length+(r.next+1);omega,by simp[declM,entM];omega,ent_slow r i v,List.length_set⟩
 use:=fun r i v k=>⟨Nat.le_succ _,by show r.probs.length+r.next≤r.probs.length+(r.next+1);omega,by show r.ds.length+r.next≤r.ds.length+(r.next+1);omega,ent_slow r i v,List.length_set⟩
 owner:=fun r o=>⟨Nat.le_refl _,Nat.le_refl _,Nat.le_refl _,fun h=>h,rfl⟩
theorem visit_slow (G:Glob) (t:Tree) (i:Bool) (s:Scope) (r:RS):Slow r (visitM G i t s r).1:=visit_rel slow_steps G t i s r
theorem visits_slow (G:Glob) (ts:List Tree) (i:Bool) (f n:Nat) (s:Scope) (r:RS):Slow r (visitsM G i ts f n s r).1:=visits_rel slow_steps G ts i f n s r
theorem alls_cons (l:Lay) (s:Scope):(allS (l :: s)).length=l.length+(allS s).length:=by
 show (List.flatMap (fun l:Lay=>l.map (·.2)) (l :: s)).length=l.length+(List.flatMap (fun l:Lay=>l.map (·.2)) s).length;rw[List.flatMap_cons,List.length_append,List.length_map]
theorem setL_len {K V:Type} [DecidableEq K]:∀ (l:List (K × V)) (k:K) (v:V),(setL l k v).length≤l.length+1
 | [],k,v=>by simp[setL]
 | y :: l,k,v=>by
  rw[setL];split
  ·simp
  ·have:=setL_len l k v
   simp;omega
theorem fold_len:∀ (l:Lay) (x:Lay),(l.foldl (fun a y=>setL a y.1 y.2) x).length≤x.length+l.length
 | [],x=>by simp
 | y :: l,x=>by
  rw[List.foldl_cons];have h1:=fold_len l (setL x y.1 y.2);have h2:=setL_len x y.1 y.2;simp only[List.length_cons];omega
theorem alls_add (s:Scope) (l:Lay):(allS (addTop s l)).length≤(allS s).length+l.length:=by
 cases s with
 | nil=>simp[addTop]
 | cons x s =>
  have:=fold_len l x;show (allS ((l.foldl (fun a y=>setL a y.1 y.2) x) :: s)).length≤_;rw[alls_cons,alls_cons];have h2:(l.foldl (fun a y=>setL a y.1 y.2) x).length≤x.length+l.length:=this;clear this;exact Nat.le_trans (Nat.add_le_add_right h2 _) (by omega)
theorem alls_tail (s:Scope):(allS s.tail).length≤(allS s).length:=by
 cases s with
 | nil=>simp
 | cons x s =>
  rw[alls_cons];show (allS s).length≤_;omega
theorem alls_var (G:Glob) (r:RS) (c:Int) (n:Nat) (t:Tree) (s:Scope):(allS (variableM G r c n t s).2).length≤(allS s).length+1:=by
 unfold variableM;split
 ·show (allS s).length≤_
  omega
 ·exact alls_add _ _
theorem head_var (G:Glob) (r:RS) (c:Int) (n:Nat) (t:Tree) (s:Scope):((variableM G r c n t ([] :: s)).2.headD []).length≤1:=by
 unfold variableM;split
 ·simp
 ·simp[addTop,setL]
mutual
theorem alls_visit (G:Glob):∀ (t:Tree) (i:Bool) (s:Scope) (r:RS),(allS (visitM G i t s r).2).length+r.next≤(allS s).length+(visitM G i t s r).1.next
 | .node k x a e kids,i,s,r=>by
  by_cases h5:k=5
  ·have h2:(visitM G i (.node k x a e kids) s r).2=s:=by rw[visitM_eq,if_neg (by omega),if_neg (by omega),if_pos h5]
   rw[h2];have:=(visit_slow G (.node k x a e kids) i s r).next;omega
  rw[visitM_eq];split
  ·have h:=alls_visits G kids i 0 kids.length s { declareM (entM r i (sortI (allS s))) 0 r.next (.node k x a e kids) (decide ((layM G.globals x).getD 0≠(r.next:Int))) with owner:=(r.next:Int) }
   have hn:({ declareM (entM r i (sortI (allS s))) 0 r.next (.node k x a e kids) (decide ((layM G.globals x).getD 0≠(r.next:Int))) with owner:=(r.next:Int) }:RS).next=r.next+1:=head_next r i _ 0 _ _;omega
  split
  ·have h:=alls_visits G kids i 0 kids.length s (declareM (entM r i (sortI (allS s))) 1 r.next (.node k x a e kids) (decide ((layM G.fields x).getD 0≠(r.next:Int))))
   rw[head_next]at h;omega
  split
  ·have h:=alls_visits G kids i 0 kids.length (variableM G (entM r i (sortI (allS s))) 3 r.next (.node k x a e kids) s).2 (variableM G (entM r i (sortI (allS s))) 3 r.next (.node k x a e kids) s).1
   have h2:=alls_var G (entM r i (sortI (allS s))) 3 r.next (.node k x a e kids) s;rw[varM_next]at h;omega
  split
  ·have h:=alls_visits G kids i 0 kids.length ([] :: s) (entM r i (sortI (allS s)))
   have h2:=alls_tail (visitsM G i kids 0 kids.length ([] :: s) (entM r i (sortI (allS s)))).2;have hn:(entM r i (sortI (allS s))).next=r.next+1:=rfl;rw[alls_cons]at h
   dsimp only
   simp only[List.length_nil]at h;omega
  split
  ·have h:=alls_visits G kids i 0 2 s (variableM G (entM r i (sortI (allS s))) 4 r.next (.node k x a e kids) ([] :: s)).1
   have h2:=alls_add (visitsM G i kids 0 2 s (variableM G (entM r i (sortI (allS s))) 4 r.next (.node k x a e kids) ([] :: s)).1).2 ((variableM G (entM r i (sortI (allS s))) 4 r.next (.node k x a e kids) ([] :: s)).2.headD []);have h3:=head_var G (entM r i (sortI (allS s))) 4 r.next (.node k x a e kids) s;rw[varM_next]at h
   dsimp only
   omega
  split
  ·have h:=alls_visits G kids i 0 2 s (variableM G (entM r i (sortI (allS s))) 5 r.next (.node k x a e kids) ([] :: s)).1
   have h3:=head_var G (entM r i (sortI (allS s))) 5 r.next (.node k x a e kids) s;have h4:=alls_visits G kids i 2 1 ((variableM G (entM r i (sortI (allS s))) 5 r.next (.node k x a e kids) ([] :: s)).2.headD [] ::(visitsM G i kids 0 2 s (variableM G (entM r i (sortI (allS s))) 5 r.next (.node k x a e kids) ([] :: s)).1).2) (visitsM G i kids 0 2 s (variableM G (entM r i (sortI (allS s))) 5 r.next (.node k x a e kids) ([] :: s)).1).1;have h5:=alls_tail (visitsM G i kids 2 1 ((variableM G (entM r i (sortI (allS s))) 5 r.next (.node k x a e kids) ([] :: s)).2.headD [] ::(visitsM G i kids 0 2 s (variableM G (entM r i (sortI (allS s))) 5 r.next (.node k x a e kids) ([] :: s)).1).2) (visitsM G i kids 0 2 s (variableM G (entM r i (sortI (allS s))) 5 r.next (.node k x a e kids) ([] :: s)).1).1).2;rw[varM_next]at h;rw[alls_cons]at h4
   dsimp only
   omega
  ·have h:=alls_visits G kids i 0 kids.length s (useN G s r (entM r i (sortI (allS s))) (.node k x a e kids))
   rw[useN_next1]at h;omega
theorem alls_visits (G:Glob):∀ (ts:List Tree) (i:Bool) (f n:Nat) (s:Scope) (r:RS),(allS (visitsM G i ts f n s r).2).length+r.next≤(allS s).length+(visitsM G i ts f n s r).1.next
 | [],_,_,_,_,_=>by rw[visitsM];exact Nat.le_refl _
 | t :: ts,i,f+1,n,s,r=>by rw[visitsM];exact alls_visits G ts i f n s r
 | t :: ts,i,0,0,s,r=>by rw[visitsM];exact Nat.le_refl _
 | t :: ts,i,0,n+1,s,r=>by
  rw[visitsM];have h1:=alls_visit G t i s r;have h2:=alls_visits G ts i 0 n (visitM G i t s r).2 (visitM G i t s r).1;omega
end
structure RB (r:RS) (s:Scope) (n:Nat):Prop where
 probs:r.probs.length≤r.next
 ds:r.ds.length≤r.next
 all_:(allS s).length≤r.next
 vis:∀ x ∈ r.vis,x.1 < (r.next:Int)
 room:r.next+n≤r.uses.length
 most:r.uses.length≤1000000
theorem RB.slow {r q:RS} {s s':Scope} {n m:Nat} (h:RB r s n) (k:Slow r q) (ha:(allS s').length+r.next≤(allS s).length+q.next) (hn:q.next+m≤r.next+n):RB q s' m where
 probs:=by have:=h.probs;have:=k.probs;omega
 ds:=by have:=h.ds;have:=k.ds;omega
 all_:=by have:=h.all_;omega
 vis:=k.vis h.vis
 room:=by have:=h.room;rw[k.ulen];omega
 most:=by rw[k.ulen];exact h.most
theorem visits_snoc (G:Glob) (i:Bool):∀ (ts:List Tree) (f n:Nat) (s:Scope) (r:RS) (t:Tree),ts[f+n]? = some t →
 visitsM G i ts f (n+1) s r=visitM G i t (visitsM G i ts f n s r).2 (visitsM G i ts f n s r).1
 | [],f,n,s,r,t,h=>by simp at h
 | u :: ts,f+1,n,s,r,t,h=>by
  rw[visitsM,visitsM];exact visits_snoc G i ts f n s r t (by rw[show f+1+n=(f+n)+1 by omega]at h;simpa using h)
 | u :: ts,0,0,s,r,t,h=>by
  simp at h;subst h;rw[visitsM,visitsM]
  cases ts with
  | nil=>simp only[visitsM]
  | cons=>simp only[visitsM]
 | u :: ts,0,n+1,s,r,t,h=>by
  rw[visitsM,visitsM];exact visits_snoc G i ts 0 n _ _ t (by rw[Nat.zero_add];simpa using h)
theorem visits_zero (G:Glob) (i:Bool) (ts:List Tree) (f:Nat) (s:Scope) (r:RS):visitsM G i ts f 0 s r=(r,s):=by
 induction ts generalizing f with
 | nil=>rw[visitsM]
 | cons t ts ih =>
  cases f with
  | zero=>rw[visitsM]
  | succ f=>rw[visitsM];exact ih f
end Go.Proofs.YtoepemlnlpamlaaGreat
namespace Go.Proofs.YtoepemlnlpamlaaGreat
set_option maxRecDepth 100000
set_option maxHeartbeats 4000000
def TopK:Tree→Bool
 | .node k _ _ _ kids=>(decide (k=3) && kids.all fun f=>decide (f.kind=4) && InTs f.kids) || (decide (k=5) && decide (kids.length=3) && InTs kids)
def badF (G:Glob) (fs:List Tree) (n:Nat):Nat:=((numK fs n).filter fun y=>decide ((layM G.fields y.1.text).getD 0≠(y.2:Int))).length
def bad (G:Glob) (k:Tree) (n:Nat):Nat:=(decide ((layM G.globals k.text).getD 0≠(n:Int))).toNat+(if k.kind=3 then badF G k.kids (n+1) else 0)
def own (k:Tree):Nat:=1+(if k.kind=3 then k.kids.length else 0)
theorem bad_rec (G:Glob) (x:ByteArray) (a e:Int) (kids:List Tree) (n:Nat):bad G (.node 3 x a e kids) n=(decide ((layM G.globals x).getD 0≠(n:Int))).toNat+badF G kids (n+1):=by
 unfold bad;rw[if_pos (show (Tree.node 3 x a e kids).kind=3 from rfl)];rfl
theorem bad_proc (G:Glob) (x:ByteArray) (a e:Int) (kids:List Tree) (n:Nat):bad G (.node 5 x a e kids) n=(decide ((layM G.globals x).getD 0≠(n:Int))).toNat:=by
 unfold bad;rw[if_neg (show ¬ (Tree.node 5 x a e kids).kind=3 by show ¬ ((5:Int)=3);decide)];rfl
theorem own_rec (x:ByteArray) (a e:Int) (kids:List Tree):own (.node 3 x a e kids)=1+kids.length:=by
 unfold own;rw[if_pos (show (Tree.node 3 x a e kids).kind=3 from rfl)];rfl
theorem own_proc (x:ByteArray) (a e:Int) (kids:List Tree):own (.node 5 x a e kids)=1:=by
 unfold own;rw[if_neg (show ¬ (Tree.node 5 x a e kids).kind=3 by show ¬ ((5:Int)=3);decide)]
def GrB (m b1 b2 u:Nat) (r1 q1 r2 q2:RS):Prop :=
 ∃ p d,q1.probs.length=r1.probs.length+b1+p∧q2.probs.length=r2.probs.length+b2+p∧q1.ds.length+b1=r1.ds.length+u+d∧q2.ds.length+b2=r2.ds.length+u+d∧q1.next=r1.next+m∧q2.next=r2.next+m
theorem Gro.toB {m:Nat} {r1 q1 r2 q2:RS} (h:Gro m r1 q1 r2 q2):GrB m 0 0 0 r1 q1 r2 q2:=by
 obtain⟨p,d,h⟩:=h;exact⟨p,d,by simpa using h.p1,by simpa using h.p2,by simpa using h.d1,by simpa using h.d2,h.n1,h.n2⟩
theorem GrB.trans {m b1 b2 u m' b1' b2' u' n c1 c2 v:Nat} {r1 q1 t1 r2 q2 t2:RS} (h:GrB m b1 b2 u r1 q1 r2 q2) (k:GrB m' b1' b2' u' q1 t1 q2 t2) (hn:n=m+m') (h1:c1=b1+b1') (h2:c2=b2+b2') (hv:v=u+u'):GrB n c1 c2 v r1 t1 r2 t2:=by
 obtain⟨p,d,a1,a2,a3,a4,a5,a6⟩:=h;obtain⟨p',d',c1',c2',c3',c4',c5',c6'⟩:=k;exact⟨p+p',d+d',by omega,by omega,by omega,by omega,by omega,by omega⟩
theorem grB_declare (r1 r2:RS) (c:Int) (n1 n2:Nat) (t:Tree) (a1 a2:Bool):GrB 0 a1.toNat a2.toNat 1 r1 (declareM r1 c n1 t a1) r2 (declareM r2 c n2 t a2):=by
 refine⟨0,0,?_⟩
 cases a1 <;> cases a2 <;> simp[declareM,sayM,declM]
theorem grB_next (r1 r2:RS) (v1 v2:List (Int × List Int)):GrB 1 0 0 0 r1 { r1 with next:=r1.next+1,vis:=v1 } r2 { r2 with next:=r2.next+1,vis:=v2 }:=⟨0,0,rfl,rfl,rfl,rfl,rfl,rfl⟩
theorem grB_owner (r1 r2:RS) (o1 o2:Int):GrB 0 0 0 0 r1 { r1 with owner:=o1 } r2 { r2 with owner:=o2 }:=⟨0,0,rfl,rfl,rfl,rfl,rfl,rfl⟩
theorem declare_next (r:RS) (c:Int) (n:Nat) (t:Tree) (a:Bool):(declareM r c n t a).next=r.next:=by cases a <;> rfl
theorem badF_cons (G:Glob) (f:Tree) (fs:List Tree) (n:Nat):badF G (f :: fs) n=(decide ((layM G.fields f.text).getD 0≠(n:Int))).toNat+badF G fs (n+countM f):=by
 unfold badF;rw[numK,List.filter_cons]
 by_cases h:(layM G.fields f.text).getD 0=(n:Int)
 ·simp[h]
 ·simp[h];omega
theorem top_fields {G1 G2:Glob} (hG:Agree G1 G2):∀ (fs:List Tree) (s1 s2:Scope) (r1 r2:RS) (n1 n2:Nat),r1.next=n1→r2.next=n2→(fs.all fun f=>decide (f.kind=4) && InTs f.kids)=true→namesS s1=namesS s2 →
 GrB (countsM fs) (badF G1 fs n1) (badF G2 fs n2) fs.length r1 (visitsM G1 false fs 0 fs.length s1 r1).1 r2 (visitsM G2 false fs 0 fs.length s2 r2).1∧namesS (visitsM G1 false fs 0 fs.length s1 r1).2=namesS (visitsM G2 false fs 0 fs.length s2 r2).2
 | [],s1,s2,r1,r2,n1,n2,_,_,_,hs=>by
  simp only[visitsM,List.length_nil];exact⟨(Gro.refl r1 r2).toB,hs⟩
 | .node k x a e kids :: fs,s1,s2,r1,r2,n1,n2,e1,e2,h,hs=>by
  subst e1;subst e2;rw[List.all_cons,Bool.and_eq_true,Bool.and_eq_true,decide_eq_true_eq]at h;obtain⟨⟨hk,hin⟩,hrest⟩:=h;have hk':k=4:=hk;subst hk';have hin':InTs kids=true:=hin;simp only[List.length_cons,visitsM]
  obtain⟨A,hA,B⟩:∃ A:GrB (countM (.node 4 x a e kids)) (decide ((layM G1.fields x).getD 0≠(r1.next:Int))).toNat (decide ((layM G2.fields x).getD 0≠(r2.next:Int))).toNat 1 r1 (visitM G1 false (.node 4 x a e kids) s1 r1).1 r2 (visitM G2 false (.node 4 x a e kids) s2 r2).1,
   ((visitM G1 false (.node 4 x a e kids) s1 r1).1.next=r1.next+countM (.node 4 x a e kids)∧(visitM G2 false (.node 4 x a e kids) s2 r2).1.next=r2.next+countM (.node 4 x a e kids)) ∧
   namesS (visitM G1 false (.node 4 x a e kids) s1 r1).2=namesS (visitM G2 false (.node 4 x a e kids) s2 r2).2:=by
   rw[visitM,visitM,countM];simp only[show ¬ ((4:Int)=3) by decide,if_false,if_true];obtain⟨b1,b2⟩:=gro_visits hG kids false 0 kids.length s1 s2 (declareM { r1 with next:=r1.next+1 } 1 r1.next (.node 4 x a e kids) (decide ((layM G1.fields x).getD 0≠(r1.next:Int)))) (declareM { r2 with next:=r2.next+1 } 1 r2.next (.node 4 x a e kids) (decide ((layM G2.fields x).getD 0≠(r2.next:Int)))) hin' hs;have hg:=(grB_next r1 r2 r1.vis r2.vis).trans ((grB_declare { r1 with next:=r1.next+1 } { r2 with next:=r2.next+1 } 1 r1.next r2.next (.node 4 x a e kids) (decide ((layM G1.fields x).getD 0≠(r1.next:Int))) (decide ((layM G2.fields x).getD 0≠(r2.next:Int)))).trans b1.toB rfl rfl rfl rfl) rfl rfl rfl rfl
   have hm:1+(0+countsM (List.take kids.length (List.drop 0 kids)))=1+countsM kids:=by simp
   rw[hm]at hg;simp only[Nat.zero_add,Nat.add_zero]at hg;refine⟨hg,?_,b2⟩;obtain⟨_,_,_,_,_,_,h5,h6⟩:=hg;exact⟨h5,h6⟩
  obtain⟨c1,c2⟩:=top_fields hG fs _ _ (visitM G1 false (.node 4 x a e kids) s1 r1).1 (visitM G2 false (.node 4 x a e kids) s2 r2).1 _ _ hA.1 hA.2 hrest B;refine⟨A.trans c1 (by rw[countsM]) ?_ ?_ (by omega),c2⟩
  ·rw[badF_cons];rfl
  ·rw[badF_cons];rfl
theorem top_visit {G1 G2:Glob} (hG:Agree G1 G2) (t:Tree) (ht:TopK t=true) (s1 s2:Scope) (r1 r2:RS) (hs:namesS s1=namesS s2) :
 GrB (countM t) (bad G1 t r1.next) (bad G2 t r2.next) (own t) r1 (visitM G1 false t s1 r1).1 r2 (visitM G2 false t s2 r2).1∧namesS (visitM G1 false t s1 r1).2=namesS (visitM G2 false t s2 r2).2:=by
 obtain⟨k,x,a,e,kids⟩:=t;rw[TopK,Bool.or_eq_true,Bool.and_eq_true,Bool.and_eq_true,Bool.and_eq_true,decide_eq_true_eq,decide_eq_true_eq,decide_eq_true_eq]at ht
 rcases ht with ⟨rfl,hf⟩ | ⟨⟨rfl,hl⟩,hin⟩
 ·rw[visitM,visitM,countM]
  simp only[if_true];obtain⟨b1,b2⟩:=top_fields hG kids s1 s2 { declareM { r1 with next:=r1.next+1 } 0 r1.next (.node 3 x a e kids) (decide ((layM G1.globals x).getD 0≠(r1.next:Int))) with owner:=(r1.next:Int) } { declareM { r2 with next:=r2.next+1 } 0 r2.next (.node 3 x a e kids) (decide ((layM G2.globals x).getD 0≠(r2.next:Int))) with owner:=(r2.next:Int) } (r1.next+1) (r2.next+1) (declare_next _ _ _ _ _) (declare_next _ _ _ _ _) hf hs;refine⟨?_,b2⟩;have hg:=(grB_next r1 r2 r1.vis r2.vis).trans ((grB_declare { r1 with next:=r1.next+1 } { r2 with next:=r2.next+1 } 0 r1.next r2.next (.node 3 x a e kids) (decide ((layM G1.globals x).getD 0≠(r1.next:Int))) (decide ((layM G2.globals x).getD 0≠(r2.next:Int)))).trans ((grB_owner _ _ (r1.next:Int) (r2.next:Int)).trans b1 rfl rfl rfl rfl) rfl rfl rfl rfl) rfl rfl rfl rfl;simp only[Nat.zero_add]at hg;rw[bad_rec,bad_rec,own_rec];exact hg
 ·match kids,hl with
  | [u,v,w],_ =>
   rw[visitM,visitM,countM];simp only[show ¬ ((5:Int)=3) by decide,show ¬ ((5:Int)=4) by decide,if_false,if_true];obtain⟨b1,b2⟩:=gro_visits hG [u,v,w] false 0 2 [[]] [[]] { declareM { r1 with next:=r1.next+1 } 2 r1.next (.node 5 x a e [u,v,w]) (decide ((layM G1.globals x).getD 0≠(r1.next:Int))) with owner:=(r1.next:Int) } { declareM { r2 with next:=r2.next+1 } 2 r2.next (.node 5 x a e [u,v,w]) (decide ((layM G2.globals x).getD 0≠(r2.next:Int))) with owner:=(r2.next:Int) } hin rfl;obtain⟨c1,c2⟩:=gro_visits hG [u,v,w] true 2 1 _ _ _ _ hin (cons_agree (l:=[]) (m:=[]) b2 rfl);refine⟨?_,hs⟩;have hg:=(grB_next r1 r2 r1.vis r2.vis).trans ((grB_declare { r1 with next:=r1.next+1 } { r2 with next:=r2.next+1 } 2 r1.next r2.next (.node 5 x a e [u,v,w]) (decide ((layM G1.globals x).getD 0≠(r1.next:Int))) (decide ((layM G2.globals x).getD 0≠(r2.next:Int)))).trans ((grB_owner _ _ (r1.next:Int) (r2.next:Int)).trans (b1.toB.trans c1.toB rfl rfl rfl rfl) rfl rfl rfl rfl) rfl rfl rfl rfl) rfl rfl rfl rfl
   have hm:1+(0+(0+(countsM (List.take 2 (List.drop 0 [u,v,w]))+countsM (List.take 1 (List.drop 2 [u,v,w])))))=1+countsM [u,v,w]:=by simp[countsM];omega
   rw[hm]at hg;simp only[Nat.zero_add,Nat.add_zero]at hg;rw[bad_proc,bad_proc,own_proc];exact hg
def r00:RS:=⟨[],[],[],[],0,0⟩
def probT (G:Glob) (t:Tree):Nat:=(visitM G false t [] r00).1.probs.length - bad G t 0
def decT (G:Glob) (t:Tree):Nat:=(visitM G false t [] r00).1.ds.length+bad G t 0 - own t
theorem top_one {G G2:Glob} (hG:Agree G G2) (t:Tree) (ht:TopK t=true) (s:Scope) (r:RS) (hs:namesS s = []) :
 (visitM G2 false t s r).1.probs.length=r.probs.length+bad G2 t r.next+probT G t∧(visitM G2 false t s r).1.ds.length+bad G2 t r.next=r.ds.length+own t+decT G t∧(visitM G2 false t s r).1.next=r.next+countM t∧namesS (visitM G2 false t s r).2=namesS (visitM G false t [] r00).2:=by
 obtain⟨⟨p,d,h1,h2,h3,h4,h5,h6⟩,h7⟩:=top_visit hG t ht [] s r00 r hs.symm;unfold probT decT;have e1:r00.probs.length=0:=rfl;have e2:r00.ds.length=0:=rfl;have e3:r00.next=0:=rfl;rw[e1,e3]at h1;rw[e2,e3]at h3;refine⟨by omega,by omega,h6,h7.symm⟩
theorem addTop_len (s:Scope) (l:Lay):(addTop s l).length=s.length:=by cases s <;> rfl
theorem variableM_len (G:Glob) (r:RS) (k:Int) (n:Nat) (t:Tree) (s:Scope):(variableM G r k n t s).2.length=s.length:=by
 unfold variableM;split
 ·rfl
 ·exact addTop_len _ _
mutual
theorem visit_len (G:Glob):∀ (t:Tree) (i:Bool) (s:Scope) (r:RS),(visitM G i t s r).2.length=s.length
 | .node k x a e kids,i,s,r=>by
  rw[visitM_eq];split
  ·exact visits_len G kids _ _ _ _ _
  split
  ·exact visits_len G kids _ _ _ _ _
  split
  ·rfl
  split
  ·rw[visits_len,variableM_len]
  split
  ·rw[List.length_tail,visits_len];rfl
  split
  ·rw[addTop_len,visits_len]
  split
  ·rw[List.length_tail,visits_len,List.length_cons,visits_len];rfl
  ·exact visits_len G kids _ _ _ _ _
theorem visits_len (G:Glob):∀ (ts:List Tree) (i:Bool) (f n:Nat) (s:Scope) (r:RS),(visitsM G i ts f n s r).2.length=s.length
 | [],_,_,_,_,_=>by rw[visitsM]
 | t :: ts,i,f+1,n,s,r=>by rw[visitsM];exact visits_len G ts _ _ _ _ _
 | t :: ts,i,0,0,s,r=>by rw[visitsM]
 | t :: ts,i,0,n+1,s,r=>by rw[visitsM];rw[visits_len G ts,visit_len G t]
end
end Go.Proofs.YtoepemlnlpamlaaGreat
namespace Go.Proofs.YtoepemlnlpamlaaGreat
set_option maxRecDepth 100000
set_option maxHeartbeats 4000000
open Go.RowKit
def VisitC (E:RC) (G:Glob) (B:Nat) (t:Tree):Prop :=
 ∀ (i:Bool) (s:Scope) (p:Option Addr) (ms:List Nat) (r:RS) (V:RV) (w:World) (A:Option Addr) (c:Nat),
  RSAt E G r V w→ScAt w E.base p s ms→Sep E ms→KidsAt w B A 0 t.kids→t.kids.length≤c→E.base≤w.heap.size→VOk s.isEmpty t=true→RB r s (countM t) →
  Calls Tryz.prog 79 #[.pointer (some ⟨E.rp,0,none⟩),nodeV t A c,.pointer p,.bool i] w fun e w'=>e = .returned (.tuple #[])∧∃ V',RSAt E G (visitM G i t s r).1 V' w'∧ScAt w' E.base p (visitM G i t s r).2 ms∧KX E (fun g=>g=E.vi∨ms.head? = some g) w w'
theorem isEmpty_len {α:Type} {a b:List α} (h:a.length=b.length):a.isEmpty=b.isEmpty:=by
 cases a <;> cases b <;> first | rfl | cases h
theorem run_slice_mid {P:Program} (w:World) (t e:TypeId) (i:TypeInfo) (ht:P.underlying t=some (.slice e)) (hi:P.info? e=some i) (a:Option Addr) (len cap lo hi_:Nat) (h1:lo≤hi_) (h2:hi_≤cap) :
 (Instr.slice t (.slice a len cap) (some (.int .i64 (lo:Int))) (some (.int .i64 (hi_:Int))) none).run P w = .ok (.slice (if cap=lo then a else a.map (·.add (lo * i.size))) (hi_ - lo) (cap - lo)) w:=by
 simp[Instr.slice,run_underlying ht,Instr.sliceBounds,Instr.sliceBound,asIntOf,sizeOf,typeInfo,hi];rw[if_pos h2,if_pos h1]
theorem RSAt.notPtr {E:RC} {G:Glob} {r:RS} {V:RV} {w:World} (h:RSAt E G r V w) {g:Nat} {cs:Array Value} (hb:Blk w g 68 cs):E.uA.map (·.block)≠some g:=by
 intro hg
 have hv:(Value.slice E.uA r.uses.length E.uc).ownBlock=some g:=by
  cases hA:E.uA with
  | none=>rw[hA]at hg;cases hg
  | some p=>rw[hA]at hg;simpa [Value.ownBlock] using hg
 exact h.us.ne_blk hb (by decide) hv
theorem kids_any (E:RC) (G:Glob) (B:Nat) (hB:B≤E.base) (kids:List Tree) (hih:∀ k ∈ kids,VisitC E G B k) (i:Bool) (s:Scope) (p:Option Addr) (ms:List Nat) (r:RS) (V:RV) (w:World)
 (k0:Int) (x0:ByteArray) (a0 z0:Int) (A:Option Addr) (nk c f n to_ bn br:Nat) (hnk:kids.length=nk) (hto:to_=f+n) (h:RSAt E G r V w) (hs:ScAt w E.base p s ms) (hsep:Sep E ms) (hk:KidsAt w B A 0 kids) (hcap:nk≤c) (hfn:f+n≤nk) (hbase:E.base≤w.heap.size)
 (hbn:Blk w bn 24 #[.int .i64 k0,.string x0,.int .i64 a0,.int .i64 z0,.slice A nk c]) (hbr:Blk w br 68 #[.pointer (some ⟨E.rp,0,none⟩)]) (hv:VOks s.isEmpty kids=true) (hrb:RB r s (countsM ((kids.drop f).take n))) :
 Calls Tryz.prog 146 #[.int .i64 (f:Int),.int .i64 (to_:Int),.pointer p,.bool i,.pointer (some ⟨bn,0,none⟩),.pointer (some ⟨br,0,none⟩)] w fun e w'=>e = .returned (.tuple #[])∧∃ V',RSAt E G (visitsM G i kids f n s r).1 V' w'∧ScAt w' E.base p (visitsM G i kids f n s r).2 ms∧KX E (fun g=>g=E.vi∨ms.head? = some g) w w':=by
 obtain⟨i0,hi0,hz0,hz1,hz2⟩:=info_parts node_info;have hsl:=run_slice_mid (P:=Tryz.prog) w 22 24 i0 Tryz.underlying22 hi0 A nk c f to_ (by omega) (by omega);rw[hz1,show to_ - f=n by omega]at hsl
 obtain⟨A1,hA1⟩:∃ A1,(if c=f then A else A.map (·.add (f * 5)))=A1:=⟨_,rfl⟩
 rw[hA1]at hsl
 obtain⟨c1,hc1⟩:∃ q,c - f=q:=⟨_,rfl⟩
 rw[hc1]at hsl
 have hnm:n≤1000000:=by
  have h1:=hrb.room;have h2:=hrb.most;have h3:=counts_len ((kids.drop f).take n);simp at h3;omega
 have b4:=hbn.cell 4;have lb:=hbn.lt;have HA1:=kH hA1;have HIH:=kH hih;have H:=kH h;have HS:=kH hs;have HK:=kH hk;have HBN:=kH hbn;have HBR:=kH hbr;have HV:=kH hv;have HRB:=kH hrb;have HNK:=kH hnk;have HFN:Hid (f+n≤nk∧nk≤c∧B≤E.base∧E.base≤w.heap.size):=kH ⟨hfn,hcap,hB,hbase⟩;clear hA1 hih h hs hk hbn hbr hv hrb hnk hto hcap hfn hB hbase hc1 hi0 hz0 hz1 hz2
 go_enter Tryz.func146,Tryz.ntmps146
 go_wp2_with fail
 go_loopg [18] n (fun gk s18 wr => ∃ (j:Nat) (Vj:RV),j+gk=n∧s18 = .int .i64 (j:Int)∧Hid (RSAt E G (visitsM G i kids f j s r).1 Vj wr)∧Hid (ScAt wr E.base p (visitsM G i kids f j s r).2 ms)∧Hid (KX E (fun g=>g=E.vi∨ms.head? = some g) w wr))
 case atStart=>exact⟨0,V,by omega,rfl,by rw[visits_zero];exact H,by rw[visits_zero];exact HS,kH (KX.refl _ _ _)⟩
 case round =>
  obtain⟨j,Vj,hj,rfl,Hj,HSj,HKj⟩:=hrel;have HJ:=kH hj
  have hjn:j≤n:=by omega
  clear hj
  by_cases hlt:j < n
  ·have hlt':(j:Int) < (n:Int):=by omega
   obtain⟨u,hu⟩:∃ u,kids[f+j]? = some u:=⟨_,List.getElem?_eq_getElem (by rw[HNK.out];have:=HFN.out;omega)⟩
   have hbW:Below E.base w wr:=HKj.out.low HFN.out.2.2.2;have hkr:KidsAt wr B A 0 kids:=KidsAt.below (hbW.mono HFN.out.2.2.1) (Nat.le_refl _) _ _ _ HK.out;obtain⟨vals,⟨b,off,hA,hbl,hcs⟩,hT⟩:=hkr.get (f+j) u hu;obtain⟨A',c',hvals,hK'⟩:=hT.five;subst hA;subst hvals;have hcu:=hT.cap;have hsz:=HKj.out.size
   have hA1:A1=some ⟨b,off+f * 5,none⟩:=by
    rw[← HA1.out,if_neg (by have:=HFN.out;omega)];simp[Addr.add_lit]
   subst hA1
   have hbb:b < wr.heap.size:=by have:=HFN.out;omega
   obtain⟨uk,huk⟩:∃ q,u.kind=q:=⟨_,rfl⟩
   obtain⟨ux,hux⟩:∃ q,u.text=q:=⟨_,rfl⟩
   obtain⟨ua,hua⟩:∃ q,u.at_=q:=⟨_,rfl⟩
   obtain⟨uz,huz⟩:∃ q,u.end_=q:=⟨_,rfl⟩
   obtain⟨un,hun⟩:∃ q,u.kids.length=q:=⟨_,rfl⟩
   have hcs':∀ q v,[Value.int .i64 uk,.string ux,.int .i64 ua,.int .i64 uz,.slice A' un c'][q]? = some v→wr.cell? ⟨b,off+f * 5+j * 5+q,none⟩=some v:=fun q v hq=>by
    have:=hcs q v (by rw[huk,hux,hua,huz,hun];exact hq);rw[show off+(0+(f+j)) * 5+q=off+f * 5+j * 5+q by omega]at this;exact this
   have t0:wr.cell? ⟨b,off+f * 5+j * 5,none⟩=some (.int .i64 uk):=by simpa using hcs' 0 _ rfl
   have t1:wr.cell? ⟨b,off+f * 5+j * 5+1,none⟩=some (.string ux):=by simpa using hcs' 1 _ rfl
   have t2:wr.cell? ⟨b,off+f * 5+j * 5+2,none⟩=some (.int .i64 ua):=by simpa using hcs' 2 _ rfl
   have t3:wr.cell? ⟨b,off+f * 5+j * 5+3,none⟩=some (.int .i64 uz):=by simpa using hcs' 3 _ rfl
   have t4:wr.cell? ⟨b,off+f * 5+j * 5+4,none⟩=some (.slice A' un c'):=by simpa using hcs' 4 _ rfl
   have hbR:=HKj.out.blk HBR.out (by decide) (by decide) (by decide) (H.out.notPtr HBR.out);have hmem:u ∈ kids:=List.mem_of_getElem? hu
   have hrbj:RB (visitsM G i kids f j s r).1 (visitsM G i kids f j s r).2 (countM u):=by
    refine HRB.out.slow (visits_slow G kids i f j s r) (alls_visits G kids i f j s r) ?_;have h1:=nexts_le G kids i f j s r
    have h2:((kids.drop f).take n)[j]? = some u:=by rw[List.getElem?_take_of_lt hlt,List.getElem?_drop];exact hu
    have h3:=countsM_take _ j u h2;have h4:=countsM_le ((kids.drop f).take n) (j+1)
    have e:((kids.drop f).take n).take j=(kids.drop f).take j:=by rw[List.take_take,Nat.min_eq_left hjn]
    rw[e]at h3;omega
   have hvj:VOk (visitsM G i kids f j s r).2.isEmpty u=true:=by
    rw[isEmpty_len (visits_len G kids i f j s r)];exact VOks_mem HV.out u hmem
   obtain⟨X,hX⟩:∃ X,wr.alloc (.cells #[.int .i64 uk,.string ux,.int .i64 ua,.int .i64 uz,.slice A' un c'] 24)=X:=⟨_,rfl⟩
   have hbX:Below wr.heap.size wr X:=by rw[← hX];exact below_alloc _ _
   have hcall:=HIH.out u hmem i (visitsM G i kids f j s r).2 p ms (visitsM G i kids f j s r).1 Vj X A' c' (Hj.out.below hbX) (HSj.out.below hbX) hsep (KidsAt.below hbX (by have:=HFN.out;omega) _ _ _ hK') hcu (by have:=HFN.out;have:=hbX.size;omega) hvj hrbj;unfold nodeV at hcall;rw[huk,hux,hua,huz,hun,← visits_snoc G i kids f j s r u hu]at hcall;have HC:=kH hcall;have HBX:=kH hbX
   have hTX:Blk X wr.heap.size 24 #[.int .i64 uk,.string ux,.int .i64 ua,.int .i64 uz,.slice A' un c']:=by rw[← hX];exact Blk.new wr _ _
   have hRX:=hbR.below hbX hbR.lt;have r0:=hRX.cell 0;have lr:=hRX.lt;have y0:=hTX.cell 0;have y1:=hTX.cell 1;have y2:=hTX.cell 2;have y3:=hTX.cell 3;have y4:=hTX.cell 4;have ly:=hTX.lt;have hwj:IntKind.i64.wrap ((j:Int)+1)=(j:Int)+1:=IntWalk.i64_in _ (by omega);clear hcs hcs' hT hK' hkr hbW hu hcall hbX hrbj hvj hmem huk hux hua huz hun hcu hbR hTX hRX
   go_wp2_with (rw[hX])
   refine HC.out.mono ?_;rintro e w5 ⟨rfl,V5,h5,s5,k5⟩;have H5:=kH h5;have S5:=kH s5;have K5:Hid (KX E (fun g=>g=E.vi∨ms.head? = some g) w w5):=kH (HKj.out.trans ((KX.of_below (M:=fun g=>g=E.vi∨ms.head? = some g) HBX.out).trans k5 (fun g hg=>.inl hg)) (fun g hg=>.inl hg));clear h5 s5 k5 t0 t1 t2 t3 t4 r0 y0 y1 y2 y3 y4 lr ly
   go_wp2_with fail
   go_roundg (gk - 1)
   case measure=>have:=HJ.out;omega
   case rel=>exact⟨j+1,V5,by have:=HJ.out;omega,by simp,H5,S5,K5⟩
  ·have hje:j=n:=by omega
   subst hje
   go_wp2_with fail
   go_end0
   exact⟨rfl,Vj,Hj.out,HSj.out,HKj.out⟩
end Go.Proofs.YtoepemlnlpamlaaGreat
