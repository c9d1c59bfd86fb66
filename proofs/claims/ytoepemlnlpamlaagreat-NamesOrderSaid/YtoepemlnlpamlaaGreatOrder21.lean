/- The law NamesOrder holds: for every text and both numbers the law returns true, and its arguments read as before. No condition. Part 21: Ord2 At1 VisM. -/
import Derived.Test.YtoepemlnlpamlaaGreatOrder20
namespace Go.Proofs.YtoepemlnlpamlaaGreat
set_option maxRecDepth 100000
set_option maxHeartbeats 4000000
def numK:List Tree→Nat→List (Tree × Nat)
 | [],_=>[]
 | k :: ks,n=>(k,n) :: numK ks (n+countM k)
def numF:List Tree→Nat→List (Tree × Nat)
 | [],_=>[]
 | k :: ks,n=>(numK k.kids (n+1)).filter (fun y=>decide (y.1.kind=4)) ++ numF ks (n+countM k)
def nameN (L:List (Tree × Nat)):List (ByteArray × Nat):=L.map fun y=>(y.1.text,y.2)
def firsts (L:List (ByteArray × Nat)) (l:Lay):Lay:=L.foldl (fun l y=>firstM l y.1 (y.2:Int)) l
theorem collectF_eq:∀ (fs:List Tree) (n:Nat) (l:Lay),collectF fs n l=firsts (nameN ((numK fs n).filter fun y=>decide (y.1.kind=4))) l
 | [],_,_=>rfl
 | f :: fs,n,l=>by
  rw[collectF,collectF_eq fs,numK,List.filter_cons]
  by_cases h:f.kind=4
  ·rw[if_pos h,if_pos (decide_eq_true h)];rfl
  ·rw[if_neg h,if_neg (by simp[h])]
theorem firsts_append (a b:List (ByteArray × Nat)) (l:Lay):firsts (a ++ b) l=firsts b (firsts a l):=List.foldl_append
theorem collectK_eq:∀ (ks:List Tree) (n:Nat) (g:Glob),collectK ks n g=⟨firsts (nameN (numK ks n)) g.globals,firsts (nameN (numF ks n)) g.fields,(numK ks n).foldl (fun l y=>setL l (y.2:Int) y.1.kind) g.kinds⟩
 | [],_,_=>rfl
 | k :: ks,n,g=>by
  rw[collectK,collectK_eq ks,numK,numF];simp only[nameN,List.map_append,firsts_append,List.map_cons,collectF_eq];rfl
theorem lookL_setL {K V:Type} [DecidableEq K]:∀ (l:List (K × V)) (k:K) (v:V) (x:K),lookL (setL l k v) x=if x=k then some v else lookL l x
 | [],k,v,x=>rfl
 | y :: l,k,v,x=>by
  rw[setL]
  by_cases h:k=y.1
  ·rw[if_pos h,lookL,lookL]
   by_cases hx:x=k
   ·rw[if_pos hx,if_pos hx]
   ·rw[if_neg hx,if_neg hx,if_neg (by rw[← h];exact hx)]
  ·rw[if_neg h,lookL,lookL_setL l,lookL]
   by_cases hx:x=y.1
   ·rw[if_pos hx,if_pos hx,if_neg (by rw[hx];exact fun e=>h e.symm)]
   ·rw[if_neg hx,if_neg hx]
theorem lay_firstM (l:Lay) (n:ByteArray) (k:Int) (x:ByteArray):layM (firstM l n k) x=(layM l x).or (if x=n then some k else none):=by
 unfold firstM
 by_cases h:(layM l n).isSome
 ·rw[if_pos h]
  by_cases hx:x=n
  ·subst hx
   obtain⟨v,hv⟩:=Option.isSome_iff_exists.1 h
   rw[hv];rfl
  ·rw[if_neg hx];simp
 ·rw[if_neg h]
  unfold layM;rw[lookL_setL]
  by_cases hx:x=n
  ·subst hx
   rw[if_pos rfl,if_pos rfl]
   have:lookL l x=none:=by simpa using h
   rw[this];rfl
  ·rw[if_neg hx,if_neg hx];simp
theorem lay_firsts:∀ (L:List (ByteArray × Nat)) (l:Lay) (x:ByteArray),layM (firsts L l) x=(layM l x).or ((L.find? fun y=>decide (x=y.1)).map fun y=>(y.2:Int))
 | [],l,x=>by simp[firsts]
 | y :: L,l,x=>by
  show layM (firsts L (firstM l y.1 y.2)) x=_;rw[lay_firsts L,lay_firstM,List.find?_cons]
  by_cases hx:x=y.1
  ·rw[if_pos hx,decide_eq_true hx]
   cases layM l x <;> rfl
  ·rw[if_neg hx,decide_eq_false hx]
   simp
theorem countM_one (t:Tree):1≤countM t:=by cases t;simp[countM]
theorem countM_kids (t:Tree):countM t=1+countsM t.kids:=by cases t;rfl
theorem numK_bounds:∀ (ks:List Tree) (n:Nat),∀ y ∈ numK ks n,n≤y.2∧y.2 < n+countsM ks
 | [],_,y,h=>by cases h
 | k :: ks,n,y,h=>by
  rw[numK]at h;have:=countM_one k;rw[countsM]
  rcases List.mem_cons.1 h with rfl | h
  ·simp;omega
  ·have:=numK_bounds ks _ y h
   omega
theorem numK_pw:∀ (ks:List Tree) (n:Nat),(numK ks n).Pairwise fun a b=>a.2 < b.2
 | [],_=>List.Pairwise.nil
 | k :: ks,n=>by
  rw[numK];refine List.Pairwise.cons (fun y h=>?_) (numK_pw ks _);have:=numK_bounds ks _ y h;have:=countM_one k
  simp;omega
theorem numF_bounds:∀ (ks:List Tree) (n:Nat),∀ y ∈ numF ks n,n < y.2∧y.2 < n+countsM ks
 | [],_,y,h=>by cases h
 | k :: ks,n,y,h=>by
  rw[numF]at h;have h1:=countM_one k;have h2:=countM_kids k;rw[countsM]
  rcases List.mem_append.1 h with h | h
  ·have:=numK_bounds _ _ y ((List.mem_filter.1 h).1)
   omega
  ·have:=numF_bounds ks _ y h
   omega
theorem numF_pw:∀ (ks:List Tree) (n:Nat),(numF ks n).Pairwise fun a b=>a.2 < b.2
 | [],_=>List.Pairwise.nil
 | k :: ks,n=>by
  rw[numF];refine List.pairwise_append.2 ⟨(numK_pw _ _).sublist List.filter_sublist,numF_pw ks _,fun a ha b hb=>?_⟩;have h1:=numK_bounds _ _ a (List.mem_filter.1 ha).1;have h2:=numF_bounds ks _ b hb;have h3:=countM_kids k;omega
def Own1 (L:List (ByteArray × Nat)):Prop:=∀ y ∈ L,(L.find? fun z=>decide (y.1=z.1)).map (fun z=>z.2)=some y.2
theorem own1_nodup {L:List (ByteArray × Nat)} (hn:L.Pairwise fun a b=>a.2 < b.2) (h:Own1 L):(L.map (·.1)).Nodup:=by
 refine List.pairwise_map.2 (hn.imp_of_mem fun {a b} ha hb hlt he=>?_);have h1:=h a ha;have h2:=h b hb;rw[he]at h1;rw[h1]at h2;injection h2;omega
theorem nodup_own1:∀ {L:List (ByteArray × Nat)},(L.map (·.1)).Nodup→Own1 L
 | [],_,y,hy=>by cases hy
 | z :: L,h,y,hy=>by
  rw[List.map_cons,List.nodup_cons]at h;rw[List.find?_cons]
  rcases List.mem_cons.1 hy with rfl | hy
  ·simp
  ·have hne:y.1≠z.1:=fun e=>h.1 (by rw[← e];exact List.mem_map_of_mem hy)
   rw[decide_eq_false hne];exact nodup_own1 h.2 y hy
theorem find_isSome (L:List (ByteArray × Nat)) (x:ByteArray):(L.find? fun z=>decide (x=z.1)).isSome=(L.map (·.1)).any fun y=>decide (x=y):=by
 induction L with
 | nil=>rfl
 | cons z L ih =>
  rw[List.find?_cons,List.map_cons,List.any_cons,← ih]
  cases decide (x=z.1) <;> rfl
theorem kinds_at:∀ (ks:List Tree) (n:Nat) (l:List (Int × Int)) (y:Tree × Nat),y ∈ numK ks n→lookL ((numK ks n).foldl (fun l y=>setL l (y.2:Int) y.1.kind) l) (y.2:Int)=some y.1.kind
 | [],_,_,_,h=>by cases h
 | k :: ks,n,l,y,h=>by
  have keep:∀ (ks:List Tree) (m:Nat) (l:List (Int × Int)) (x:Nat),x < m→lookL ((numK ks m).foldl (fun l y=>setL l (y.2:Int) y.1.kind) l) (x:Int)=lookL l (x:Int):=by
   intro ks
   induction ks with
   | nil=>intro m l x _;rfl
   | cons k ks ih =>
    intro m l x hx;rw[numK,List.foldl_cons,ih _ _ _ (by omega),lookL_setL,if_neg (by simp;omega)]
  rw[numK]at h ⊢;rw[List.foldl_cons]
  rcases List.mem_cons.1 h with rfl | h
  ·rw[keep _ _ _ _ (by have:=countM_one k;simp;omega),lookL_setL,if_pos rfl]
  ·exact kinds_at ks _ _ y h
theorem numK_map:∀ (ks:List Tree) (n:Nat),(numK ks n).map (·.1)=ks
 | [],_=>rfl
 | k :: ks,n=>by rw[numK,List.map_cons,numK_map]
theorem nameN_names (L:List (Tree × Nat)):(nameN L).map (·.1)=(L.map (·.1)).map Tree.text:=by simp[nameN,Function.comp_def]
def fieldsOf (ks:List Tree):List Tree:=ks.flatMap fun k=>k.kids.filter fun f=>decide (f.kind=4)
theorem numK_filter:∀ (fs:List Tree) (n:Nat),((numK fs n).filter fun y=>decide (y.1.kind=4)).map (·.1)=fs.filter fun f=>decide (f.kind=4)
 | [],_=>rfl
 | f :: fs,n=>by
  rw[numK,List.filter_cons,List.filter_cons]
  by_cases h:f.kind=4
  ·simp only[decide_eq_true h,if_true,List.map_cons,numK_filter fs]
  ·simp only[decide_eq_false h]
   exact numK_filter fs _
theorem numF_map:∀ (ks:List Tree) (n:Nat),(numF ks n).map (·.1)=fieldsOf ks
 | [],_=>rfl
 | k :: ks,n=>by
  rw[numF,List.map_append,numF_map,numK_filter];rfl
def globM (ks:List Tree):Glob:=collectK ks 1 ⟨[],[],[]⟩
theorem glob_gl (ks:List Tree) (x:ByteArray):layM (globM ks).globals x=((nameN (numK ks 1)).find? fun y=>decide (x=y.1)).map fun y=>(y.2:Int):=by
 unfold globM;rw[collectK_eq,lay_firsts];rfl
theorem glob_fl (ks:List Tree) (x:ByteArray):layM (globM ks).fields x=((nameN (numF ks 1)).find? fun y=>decide (x=y.1)).map fun y=>(y.2:Int):=by
 unfold globM;rw[collectK_eq,lay_firsts];rfl
theorem glob_kind (ks:List Tree) (y:Tree × Nat) (h:y ∈ numK ks 1):kindAt (globM ks) (y.2:Int)=y.1.kind:=by
 unfold kindAt globM;rw[collectK_eq];simp only[kinds_at ks 1 _ y h,Option.getD_some]
theorem glob_kd (ks:List Tree) (hn:(ks.map Tree.text).Nodup) (x:ByteArray) (K:Int) :
 ((layM (globM ks).globals x).filter fun j=>decide (kindAt (globM ks) j=K)).isSome=ks.any fun k=>decide (x=k.text) && decide (k.kind=K):=by
 rw[Bool.eq_iff_iff,List.any_eq_true];rw[glob_gl]
 have hnn:((nameN (numK ks 1)).map (·.1)).Nodup:=by rw[nameN_names,numK_map];exact hn
 have ho:=nodup_own1 hnn
 constructor
 ·intro h
  cases hf:(nameN (numK ks 1)).find? fun y=>decide (x=y.1) with
  | none=>rw[hf]at h;cases h
  | some z =>
   rw[hf]at h;have hz:=List.mem_of_find?_eq_some hf
   have hx:x=z.1:=by simpa using List.find?_some hf
   obtain⟨y,hy,rfl⟩:=List.mem_map.1 hz;have hk:=glob_kind ks y hy;simp only[Option.map_some,Option.filter_some,hk]at h;refine⟨y.1,by have:=List.mem_map_of_mem (f:=(·.1)) hy;rwa [numK_map]at this,?_⟩;rw[Bool.and_eq_true,decide_eq_true_eq,decide_eq_true_eq];refine⟨hx,?_⟩
   by_cases h2:y.1.kind=K
   ·exact h2
   ·rw[if_neg (by simp[h2])]at h;cases h
 ·rintro⟨k,hk,h⟩
  rw[Bool.and_eq_true,decide_eq_true_eq,decide_eq_true_eq]at h;rw[← numK_map ks 1]at hk;obtain⟨y,hy,rfl⟩:=List.mem_map.1 hk;have h1:=ho (y.1.text,y.2) (List.mem_map_of_mem (f:=fun y:Tree × Nat=>(y.1.text,y.2)) hy);rw[h.1]
  cases hf:(nameN (numK ks 1)).find? fun z=>decide (y.1.text=z.1) with
  | none=>rw[hf]at h1;cases h1
  | some z =>
   rw[hf]at h1;simp only[Option.map_some,Option.some.injEq]at h1;have hk:=glob_kind ks y hy;simp only[Option.map_some,Option.filter_some,h1,hk,h.2,decide_true,if_true,Option.isSome_some]
theorem any_perm {α:Type} {a b:List α} (h:a.Perm b) (p:α→Bool):a.any p=b.any p:=by
 rw[Bool.eq_iff_iff,List.any_eq_true,List.any_eq_true];exact⟨fun ⟨x,hx,hp⟩=>⟨x,h.mem_iff.1 hx,hp⟩,fun ⟨x,hx,hp⟩=>⟨x,h.mem_iff.2 hx,hp⟩⟩
theorem any_all_perm {α:Type} {a b:List α} (h:a.Perm b) {p:α→Bool}:a.all p=b.all p:=by
 rw[Bool.eq_iff_iff,List.all_eq_true,List.all_eq_true];exact⟨fun k x hx=>k x (h.mem_iff.2 hx),fun k x hx=>k x (h.mem_iff.1 hx)⟩
theorem fieldsOf_perm {a b:List Tree} (h:a.Perm b):(fieldsOf a).Perm (fieldsOf b):=h.flatMap_right _
theorem agree_perm {a b:List Tree} (h:a.Perm b) (hn:(a.map Tree.text).Nodup):Agree (globM a) (globM b) where
 gl:=fun x=>by
  rw[glob_gl,glob_gl,Option.isSome_map,Option.isSome_map,find_isSome,find_isSome,nameN_names,nameN_names,numK_map,numK_map];exact any_perm (h.map _) _
 fl:=fun x=>by
  rw[glob_fl,glob_fl,Option.isSome_map,Option.isSome_map,find_isSome,find_isSome,nameN_names,nameN_names,numF_map,numF_map];exact any_perm ((fieldsOf_perm h).map _) _
 kd:=fun x K=>by
  rw[glob_kd a hn,glob_kd b ((h.map _).nodup_iff.1 hn)];exact any_perm h _
end Go.Proofs.YtoepemlnlpamlaaGreat
namespace Go.Proofs.YtoepemlnlpamlaaGreat
set_option maxRecDepth 100000
set_option maxHeartbeats 4000000
structure Steps (R:RS→RS→Prop):Prop where
 refl:∀ r,R r r
 trans:∀ {a b c},R a b→R b c→R a c
 none_:∀ (r:RS) (i:Bool) (v:List Int),R r (entM r i v)
 say:∀ (r:RS) (i:Bool) (v:List Int) (c:Int) (t:Tree),R r (sayM (entM r i v) c r.next t)
 decl:∀ (r:RS) (i:Bool) (v:List Int) (c:Int) (t:Tree),R r (declM (entM r i v) c r.next t)
 use:∀ (r:RS) (i:Bool) (v:List Int) (k:Int),R r { entM r i v with uses:=r.uses.set r.next k }
 owner:∀ (r:RS) (o:Int),R r { r with owner:=o }
section
variable {R:RS→RS→Prop} (hR:Steps R)
include hR
theorem Steps.declare (r:RS) (i:Bool) (v:List Int) (c:Int) (t:Tree) (a:Bool):R r (declareM (entM r i v) c r.next t a):=by
 cases a
 ·exact hR.decl r i v c t
 ·exact hR.say r i v 9 t
theorem Steps.variable_ (G:Glob) (r:RS) (i:Bool) (v:List Int) (c:Int) (t:Tree) (s:Scope):R r (variableM G (entM r i v) c r.next t s).1:=by
 unfold variableM;split
 ·exact hR.say r i v 9 t
 ·exact hR.decl r i v c t
theorem Steps.useM_ (r:RS) (i:Bool) (v:List Int) (t:Tree) (tow:Option Int):R r (useM (entM r i v) r.next t tow):=by
 cases tow with
 | none=>exact hR.say r i v 8 t
 | some k=>exact hR.use r i v k
mutual
theorem visit_rel (G:Glob):∀ (t:Tree) (i:Bool) (s:Scope) (r:RS),R r (visitM G i t s r).1
 | .node k x a e kids,i,s,r=>by
  have hb:∀ u f n s',R r u→R r (visitsM G i kids f n s' u).1:=fun u f n s' hu=>hR.trans hu (visits_rel G kids i f n s' u)
  have hd:∀ c a',R r { declareM (entM r i (sortI (allS s))) c r.next (.node k x a e kids) a' with owner:=(r.next:Int) }:=fun c a'=>hR.trans (hR.declare r i _ c _ a') (hR.owner _ _)
  have hv:∀ c s',R r (variableM G (entM r i (sortI (allS s))) c r.next (.node k x a e kids) s').1:=fun c s'=>hR.variable_ G r i _ c _ s'
  have hu:∀ tow,R r (useM (entM r i (sortI (allS s))) r.next (.node k x a e kids) tow):=fun tow=>hR.useM_ r i _ _ tow
  rw[visitM_eq];split
  ·exact hb _ _ _ _ (hd _ _)
  split
  ·exact hb _ _ _ _ (hR.declare r i _ _ _ _)
  split
  ·exact hR.trans (hR.trans (hd _ _) (visits_rel G kids false 0 2 _ _)) (visits_rel G kids true 2 1 _ _)
  split
  ·exact hb _ _ _ _ (hv _ _)
  split
  ·exact hb _ _ _ _ (hR.none_ r i _)
  split
  ·exact hb _ _ _ _ (hv _ _)
  split
  ·exact hR.trans (hb _ _ _ _ (hv _ _)) (visits_rel G kids i 2 1 _ _)
  ·refine hb _ _ _ _ ?_
   unfold useN;split
   ·exact hu _
   split
   ·exact hu _
   split
   ·exact hu _
   split
   ·exact hu _
   split
   ·exact hu _
   ·exact hR.none_ r i _
theorem visits_rel (G:Glob):∀ (ts:List Tree) (i:Bool) (f n:Nat) (s:Scope) (r:RS),R r (visitsM G i ts f n s r).1
 | [],_,_,_,_,r=>by rw[visitsM];exact hR.refl r
 | t :: ts,i,f+1,n,s,r=>by rw[visitsM];exact visits_rel G ts i f n s r
 | t :: ts,i,0,0,s,r=>by rw[visitsM];exact hR.refl r
 | t :: ts,i,0,n+1,s,r=>by rw[visitsM];exact hR.trans (visit_rel G t i s r) (visits_rel G ts i 0 n _ _)
end
end
structure Rng (a b:RS):Prop where
 next:a.next≤b.next
 probs:∃ l,b.probs=a.probs ++ l∧(l.Pairwise fun x y=>x.1 < y.1)∧∀ x ∈ l,(a.next:Int)≤x.1∧x.1 < (b.next:Int)
 ds:∃ l,b.ds=a.ds ++ l∧(l.Pairwise fun x y=>x.node < y.node)∧∀ d ∈ l,(a.next:Int)≤d.node∧d.node < (b.next:Int)
 ulen:b.uses.length=a.uses.length
 uses:∀ j,j < a.next∨b.next≤j→b.uses[j]? = a.uses[j]?
 vis:∀ m:Nat,m < a.next∨b.next≤m→lookL b.vis (m:Int)=lookL a.vis (m:Int)
theorem Rng.of_same {a b:RS} (h1:b.next=a.next) (h2:b.probs=a.probs) (h3:b.ds=a.ds) (h4:b.uses=a.uses) (h5:b.vis=a.vis):Rng a b :=
 ⟨by omega,⟨[],by simp[h2],List.Pairwise.nil,by simp⟩,⟨[],by simp[h3],List.Pairwise.nil,by simp⟩,by rw[h4],fun _ _=>by rw[h4],fun _ _=>by rw[h5]⟩
theorem Rng.trans {a b c:RS} (h:Rng a b) (k:Rng b c):Rng a c:=by
 have h1:=h.next;have k1:=k.next;obtain⟨lp,hp,hpw,hpb⟩:=h.probs;obtain⟨lq,kp,kpw,kpb⟩:=k.probs;obtain⟨ld,hd,hdw,hdb⟩:=h.ds;obtain⟨le,kd,kdw,kdb⟩:=k.ds;refine⟨by omega,⟨lp ++ lq,by rw[kp,hp,List.append_assoc],List.pairwise_append.2 ⟨hpw,kpw,fun x hx y hy=>?_⟩,fun x hx=>?_⟩,⟨ld ++ le,by rw[kd,hd,List.append_assoc],List.pairwise_append.2 ⟨hdw,kdw,fun x hx y hy=>?_⟩,fun x hx=>?_⟩,by rw[k.ulen,h.ulen],fun j hj=>?_,fun m hm=>?_⟩
 ·have:=(hpb x hx).2;have:=(kpb y hy).1;omega
 ·rcases List.mem_append.1 hx with hx | hx
  ·have:=hpb x hx;omega
  ·have:=kpb x hx;omega
 ·have:=(hdb x hx).2;have:=(kdb y hy).1;omega
 ·rcases List.mem_append.1 hx with hx | hx
  ·have:=hdb x hx;omega
  ·have:=kdb x hx;omega
 ·rw[k.uses j (by omega),h.uses j (by omega)]
 ·rw[k.vis m (by omega),h.vis m (by omega)]
theorem ent_vis (r:RS) (i:Bool) (v:List Int) (m:Nat) (h:m≠r.next):lookL (entM r i v).vis (m:Int)=lookL r.vis (m:Int):=by
 cases i
 ·rfl
 ·show lookL (setL r.vis (r.next:Int) v) (m:Int)=_
  rw[lookL_setL,if_neg (by omega)]
theorem set_far (l:List Int) (n:Nat) (k:Int) (j:Nat) (h:j≠n):(l.set n k)[j]? = l[j]? := by
 rw[List.getElem?_set];rw[if_neg (fun e=>h e.symm)]
theorem rng_steps:Steps Rng where
 refl:=fun r=>Rng.of_same rfl rfl rfl rfl rfl
 trans:=Rng.trans
 none_:=fun r i v=>⟨Nat.le_succ _,⟨[],by simp[entM],List.Pairwise.nil,by simp⟩,⟨[],by simp[entM],List.Pairwise.nil,by simp⟩,rfl,fun _ _=>rfl,fun m hm=>ent_vis r i v m (by have:(entM r i v).next=r.next+1:=rfl;omega)⟩
 say:=fun r i v c t=>⟨Nat.le_succ _,⟨_,rfl,List.pairwise_singleton _ _,fun x hx=>by
  rw[List.mem_singleton]at hx;subst hx;have:(sayM (entM r i v) c r.next t).next=r.next+1:=rfl;rw[this];simp only
  omega⟩,⟨[],by simp[entM,sayM],List.Pairwise.nil,by simp⟩,rfl,fun _ _=>rfl,fun m hm=>ent_vis r i v m (by have:(sayM (entM r i v) c r.next t).next=r.next+1:=rfl;omega)⟩
 decl:=fun r i v c t=>⟨Nat.le_succ _,⟨[],by simp[entM,declM],List.Pairwise.nil,by simp⟩,⟨_,rfl,List.pairwise_singleton _ _,fun x hx=>by
  rw[List.mem_singleton]at hx;subst hx;have:(declM (entM r i v) c r.next t).next=r.next+1:=rfl;rw[this];simp only
  omega⟩,List.length_set,fun j hj=>set_far _ _ _ _ (by have:(declM (entM r i v) c r.next t).next=r.next+1:=rfl;omega),fun m hm=>ent_vis r i v m (by have:(declM (entM r i v) c r.next t).next=r.next+1:=rfl;omega)⟩
 use:=fun r i v k=>⟨Nat.le_succ _,⟨[],by simp[entM],List.Pairwise.nil,by simp⟩,⟨[],by simp[entM],List.Pairwise.nil,by simp⟩,List.length_set,fun j hj=>set_far _ _ _ _ (by have:({ entM r i v with uses:=r.uses.set r.next k }:RS).next=r.next+1:=rfl;omega),fun m hm=>ent_vis r i v m (by have:({ entM r i v with uses:=r.uses.set r.next k }:RS).next=r.next+1:=rfl;omega)⟩
 owner:=fun r o=>Rng.of_same rfl rfl rfl rfl rfl
theorem visit_rng (G:Glob) (t:Tree) (i:Bool) (s:Scope) (r:RS):Rng r (visitM G i t s r).1:=visit_rel rng_steps G t i s r
end Go.Proofs.YtoepemlnlpamlaaGreat
namespace Go.Proofs.YtoepemlnlpamlaaGreat
set_option maxRecDepth 100000
set_option maxHeartbeats 4000000
mutual
def VOk (nl:Bool):Tree→Bool
 | .node k _ _ _ kids =>
  if k=5 then decide (kids.length=3) && VOks false kids
  else if k=11 then VOks false kids
  else if k=7∨k=8∨k=12∨k=16 then !nl && (decide (k≠12) || decide (kids.length=2)) && (decide (k≠16) || decide (kids.length=3)) && VOks nl kids
  else VOks nl kids
def VOks (nl:Bool):List Tree→Bool
 | []=>true
 | t :: ts=>VOk nl t && VOks nl ts
end
theorem VOks_mem {nl:Bool} {ts:List Tree}:VOks nl ts=true→∀ t ∈ ts,VOk nl t=true:=by
 induction ts with
 | nil=>intro _ t h;cases h
 | cons a ts ih =>
  intro h t ht;rw[VOks,Bool.and_eq_true]at h
  rcases List.mem_cons.1 ht with rfl | ht
  ·exact h.1
  ·exact ih h.2 t ht
theorem counts_append:∀ (a b:List Tree),countsM (a ++ b)=countsM a+countsM b
 | [],b=>by simp[countsM]
 | t :: a,b=>by
  rw[List.cons_append,countsM,countsM,counts_append a b];omega
theorem counts_parts (l:List Tree) (a b:Nat):countsM (l.take a)+countsM ((l.drop a).take b)≤countsM l:=by
 have h1:countsM (l.take a)+countsM (l.drop a)=countsM l:=by rw[← counts_append,List.take_append_drop]
 have h2:countsM ((l.drop a).take b)+countsM ((l.drop a).drop b)=countsM (l.drop a):=by rw[← counts_append,List.take_append_drop]
 omega
theorem head_next (r:RS) (i:Bool) (v:List Int) (c:Int) (t:Tree) (b:Bool):(declareM (entM r i v) c r.next t b).next=r.next+1:=by cases b <;> rfl
theorem varM_next (G:Glob) (r:RS) (i:Bool) (v:List Int) (c:Int) (t:Tree) (s:Scope):(variableM G (entM r i v) c r.next t s).1.next=r.next+1:=by
 unfold variableM
 split <;> rfl
theorem useN_next1 (G:Glob) (s:Scope) (r:RS) (i:Bool) (v:List Int) (t:Tree):(useN G s r (entM r i v) t).next=r.next+1:=by
 have hu:∀ tq,(useM (entM r i v) r.next t tq).next=r.next+1:=fun tq=>by cases tq <;> rfl
 unfold useN;split
 ·exact hu _
 split
 ·exact hu _
 split
 ·exact hu _
 split
 ·exact hu _
 split
 ·exact hu _
 ·rfl
mutual
theorem next_le (G:Glob):∀ (t:Tree) (i:Bool) (s:Scope) (r:RS),(visitM G i t s r).1.next≤r.next+countM t
 | .node k x a e kids,i,s,r=>by
  have hall:∀ s' (u:RS),u.next=r.next+1→(visitsM G i kids 0 kids.length s' u).1.next≤r.next+countM (.node k x a e kids):=fun s' u h=>by
   have:=nexts_le G kids i 0 kids.length s' u;rw[h]at this;simp only[List.drop_zero,List.take_length]at this;rw[countM];omega
  have htwo:∀ i1 i2 s1 s2 (u:RS),u.next=r.next+1→(visitsM G i2 kids 2 1 s2 (visitsM G i1 kids 0 2 s1 u).1).1.next≤r.next+countM (.node k x a e kids):=fun i1 i2 s1 s2 u h=>by
   have h1:=nexts_le G kids i1 0 2 s1 u;have h2:=nexts_le G kids i2 2 1 s2 (visitsM G i1 kids 0 2 s1 u).1;have h3:=counts_parts kids 2 1;rw[h]at h1;simp only[List.drop_zero]at h1;rw[countM];omega
  have hone:∀ s' (u:RS),u.next=r.next+1→(visitsM G i kids 0 2 s' u).1.next≤r.next+countM (.node k x a e kids):=fun s' u h=>by
   have h1:=nexts_le G kids i 0 2 s' u;have h3:=counts_parts kids 2 1;rw[h]at h1;simp only[List.drop_zero]at h1;rw[countM];omega
  rw[visitM_eq];split
  ·exact hall _ _ (head_next r i _ 0 _ _)
  split
  ·exact hall _ _ (head_next r i _ 1 _ _)
  split
  ·exact htwo _ _ _ _ _ (head_next r i _ 2 _ _)
  split
  ·exact hall _ _ (varM_next _ _ _ _ _ _ _)
  split
  ·exact hall _ _ rfl
  split
  ·exact hone _ _ (varM_next _ _ _ _ _ _ _)
  split
  ·exact htwo _ _ _ _ _ (varM_next _ _ _ _ _ _ _)
  ·exact hall _ _ (useN_next1 _ _ _ _ _ _)
theorem nexts_le (G:Glob):∀ (ts:List Tree) (i:Bool) (f n:Nat) (s:Scope) (r:RS),(visitsM G i ts f n s r).1.next≤r.next+countsM ((ts.drop f).take n)
 | [],_,_,_,_,_=>by rw[visitsM];simp
 | t :: ts,i,f+1,n,s,r=>by
  rw[visitsM,List.drop_succ_cons];exact nexts_le G ts i f n s r
 | t :: ts,i,0,0,s,r=>by rw[visitsM];simp
 | t :: ts,i,0,n+1,s,r=>by
  rw[visitsM];have h1:=next_le G t i s r;have h2:=nexts_le G ts i 0 n (visitM G i t s r).2 (visitM G i t s r).1;simp only[List.drop_zero,List.take_succ_cons,countsM]at h2 ⊢;omega
end
structure Slow (a b:RS):Prop where
 next:a.next≤b.next
 probs:b.probs.length+a.next≤a.probs.length+b.next
 ds:b.ds.length+a.next≤a.ds.length+b.next
 vis:(∀ x ∈ a.vis,x.1 < (a.next:Int))→∀ x ∈ b.vis,x.1 < (b.next:Int)
 ulen:b.uses.length=a.uses.length
theorem setL_mem {K V:Type} [DecidableEq K]:∀ (l:List (K × V)) (k:K) (v:V),∀ x ∈ setL l k v,x ∈ l∨x=(k,v)
 | [],k,v,x,h=>by
  rw[setL,List.mem_singleton]at h;exact .inr h
 | y :: l,k,v,x,h=>by
  rw[setL]at h
  by_cases hk:k=y.1
  ·rw[if_pos hk]at h
   rcases List.mem_cons.1 h with h | h
   ·exact .inr h
   ·exact .inl (List.mem_cons_of_mem _ h)
  ·rw[if_neg hk]at h
   rcases List.mem_cons.1 h with h | h
   ·exact .inl (by rw[h];simp)
   ·rcases setL_mem l k v x h with h | h
    ·exact .inl (List.mem_cons_of_mem _ h)
    ·exact .inr h
theorem ent_slow (r:RS) (i:Bool) (v:List Int) (h:∀ x ∈ r.vis,x.1 < (r.next:Int)):∀ x ∈ (entM r i v).vis,x.1 < ((r.next+1:Nat):Int):=by
 intro x hx;unfold entM at hx
 cases i
 ·have:=h x hx
  omega
 ·rcases setL_mem _ _ _ x hx with hx | rfl
  ·have:=h x hx
   omega
  ·simp
   omega
theorem slow_steps:Steps Slow where
 refl:=fun r=>⟨Nat.le_refl _,Nat.le_refl _,Nat.le_refl _,fun h=>h,rfl⟩
 trans:=fun h k=>⟨Nat.le_trans h.next k.next,by have:=h.probs;have:=k.probs;omega,by have:=h.ds;have:=k.ds;omega,fun hv=>k.vis (h.vis hv),by rw[k.ulen,h.ulen]⟩
 none_:=fun r i v=>⟨Nat.le_succ _,by show r.probs.length+r.next≤r.probs.length+(r.next+1);omega,by show r.ds.length+r.next≤r.ds.length+(r.next+1);omega,ent_slow r i v,rfl⟩
 say:=fun r i v c t=>⟨Nat.le_succ _,by simp[sayM,entM];omega,by show r.ds.length+r.next≤r.ds.length+(r.next+1);omega,ent_slow r i v,rfl⟩
 decl:=fun r i v c t=>⟨Nat.le_succ _,by show r.probs.length+r.next≤r.probs.length+(r.next+1);omega,by simp[declM,entM];omega,ent_slow r i v,List.length_set⟩
 use:=fun r i v k=>⟨Nat.le_succ _,by show r.probs.length+r.next≤r.probs.length+(r.next+1);omega,by show r.ds.length+r.next≤r.ds.length+(r.next+1);omega,ent_slow r i v,List.length_set⟩
 owner:=fun r o=>⟨Nat.le_refl _,Nat.le_refl _,Nat.le_refl _,fun h=>h,rfl⟩
theorem visit_slow (G:Glob) (t:Tree) (i:Bool) (s:Scope) (r:RS):Slow r (visitM G i t s r).1:=visit_rel slow_steps G t i s r
theorem visits_slow (G:Glob) (ts:List Tree) (i:Bool) (f n:Nat) (s:Scope) (r:RS):Slow r (visitsM G i ts f n s r).1:=visits_rel slow_steps G ts i f n s r
theorem alls_cons (l:Lay) (s:Scope):(allS (l :: s)).length=l.length+(allS s).length:=by
 show (List.flatMap (fun l:Lay=>l.map (·.2)) (l :: s)).length=l.length+(List.flatMap (fun l:Lay=>l.map (·.2)) s).length;rw[List.flatMap_cons,List.length_append,List.length_map]
theorem setL_len {K V:Type} [DecidableEq K]:∀ (l:List (K × V)) (k:K) (v:V),(setL l k v).length≤l.length+1
 | [],k,v=>by simp[setL]
 | y :: l,k,v=>by
  rw[setL];split
  ·simp
  ·have:=setL_len l k v
   simp;omega
theorem fold_len:∀ (l:Lay) (x:Lay),(l.foldl (fun a y=>setL a y.1 y.2) x).length≤x.length+l.length
 | [],x=>by simp
 | y :: l,x=>by
  rw[List.foldl_cons];have h1:=fold_len l (setL x y.1 y.2);have h2:=setL_len x y.1 y.2;simp only[List.length_cons];omega
theorem alls_add (s:Scope) (l:Lay):(allS (addTop s l)).length≤(allS s).length+l.length:=by
 cases s with
 | nil=>simp[addTop]
 | cons x s =>
  have:=fold_len l x;show (allS ((l.foldl (fun a y=>setL a y.1 y.2) x) :: s)).length≤_;rw[alls_cons,alls_cons];have h2:(l.foldl (fun a y=>setL a y.1 y.2) x).length≤x.length+l.length:=this;clear this;exact Nat.le_trans (Nat.add_le_add_right h2 _) (by omega)
theorem alls_tail (s:Scope):(allS s.tail).length≤(allS s).length:=by
 cases s with
 | nil=>simp
 | cons x s =>
  rw[alls_cons];show (allS s).length≤_;omega
theorem alls_var (G:Glob) (r:RS) (c:Int) (n:Nat) (t:Tree) (s:Scope):(allS (variableM G r c n t s).2).length≤(allS s).length+1:=by
 unfold variableM;split
 ·show (allS s).length≤_
  omega
 ·exact alls_add _ _
theorem head_var (G:Glob) (r:RS) (c:Int) (n:Nat) (t:Tree) (s:Scope):((variableM G r c n t ([] :: s)).2.headD []).length≤1:=by
 unfold variableM;split
 ·simp
 ·simp[addTop,setL]
mutual
theorem alls_visit (G:Glob):∀ (t:Tree) (i:Bool) (s:Scope) (r:RS),(allS (visitM G i t s r).2).length+r.next≤(allS s).length+(visitM G i t s r).1.next
 | .node k x a e kids,i,s,r=>by
  by_cases h5:k=5
  ·have h2:(visitM G i (.node k x a e kids) s r).2=s:=by rw[visitM_eq,if_neg (by omega),if_neg (by omega),if_pos h5]
   rw[h2];have:=(visit_slow G (.node k x a e kids) i s r).next;omega
  rw[visitM_eq];split
  ·have h:=alls_visits G kids i 0 kids.length s { declareM (entM r i (sortI (allS s))) 0 r.next (.node k x a e kids) (decide ((layM G.globals x).getD 0≠(r.next:Int))) with owner:=(r.next:Int) }
   have hn:({ declareM (entM r i (sortI (allS s))) 0 r.next (.node k x a e kids) (decide ((layM G.globals x).getD 0≠(r.next:Int))) with owner:=(r.next:Int) }:RS).next=r.next+1:=head_next r i _ 0 _ _;omega
  split
  ·have h:=alls_visits G kids i 0 kids.length s (declareM (entM r i (sortI (allS s))) 1 r.next (.node k x a e kids) (decide ((layM G.fields x).getD 0≠(r.next:Int))))
   rw[head_next]at h;omega
  split
  ·have h:=alls_visits G kids i 0 kids.length (variableM G (entM r i (sortI (allS s))) 3 r.next (.node k x a e kids) s).2 (variableM G (entM r i (sortI (allS s))) 3 r.next (.node k x a e kids) s).1
   have h2:=alls_var G (entM r i (sortI (allS s))) 3 r.next (.node k x a e kids) s;rw[varM_next]at h;omega
  split
  ·have h:=alls_visits G kids i 0 kids.length ([] :: s) (entM r i (sortI (allS s)))
   have h2:=alls_tail (visitsM G i kids 0 kids.length ([] :: s) (entM r i (sortI (allS s)))).2;have hn:(entM r i (sortI (allS s))).next=r.next+1:=rfl;rw[alls_cons]at h
   dsimp only
   simp only[List.length_nil]at h;omega
  split
  ·have h:=alls_visits G kids i 0 2 s (variableM G (entM r i (sortI (allS s))) 4 r.next (.node k x a e kids) ([] :: s)).1
   have h2:=alls_add (visitsM G i kids 0 2 s (variableM G (entM r i (sortI (allS s))) 4 r.next (.node k x a e kids) ([] :: s)).1).2 ((variableM G (entM r i (sortI (allS s))) 4 r.next (.node k x a e kids) ([] :: s)).2.headD []);have h3:=head_var G (entM r i (sortI (allS s))) 4 r.next (.node k x a e kids) s;rw[varM_next]at h
   dsimp only
   omega
  split
  ·have h:=alls_visits G kids i 0 2 s (variableM G (entM r i (sortI (allS s))) 5 r.next (.node k x a e kids) ([] :: s)).1
   have h3:=head_var G (entM r i (sortI (allS s))) 5 r.next (.node k x a e kids) s;have h4:=alls_visits G kids i 2 1 ((variableM G (entM r i (sortI (allS s))) 5 r.next (.node k x a e kids) ([] :: s)).2.headD [] ::(visitsM G i kids 0 2 s (variableM G (entM r i (sortI (allS s))) 5 r.next (.node k x a e kids) ([] :: s)).1).2) (visitsM G i kids 0 2 s (variableM G (entM r i (sortI (allS s))) 5 r.next (.node k x a e kids) ([] :: s)).1).1;have h5:=alls_tail (visitsM G i kids 2 1 ((variableM G (entM r i (sortI (allS s))) 5 r.next (.node k x a e kids) ([] :: s)).2.headD [] ::(visitsM G i kids 0 2 s (variableM G (entM r i (sortI (allS s))) 5 r.next (.node k x a e kids) ([] :: s)).1).2) (visitsM G i kids 0 2 s (variableM G (entM r i (sortI (allS s))) 5 r.next (.node k x a e kids) ([] :: s)).1).1).2;rw[varM_next]at h;rw[alls_cons]at h4
   dsimp only
   omega
  ·have h:=alls_visits G kids i 0 kids.length s (useN G s r (entM r i (sortI (allS s))) (.node k x a e kids))
   rw[useN_next1]at h;omega
theorem alls_visits (G:Glob):∀ (ts:List Tree) (i:Bool) (f n:Nat) (s:Scope) (r:RS),(allS (visitsM G i ts f n s r).2).length+r.next≤(allS s).length+(visitsM G i ts f n s r).1.next
 | [],_,_,_,_,_=>by rw[visitsM];exact Nat.le_refl _
 | t :: ts,i,f+1,n,s,r=>by rw[visitsM];exact alls_visits G ts i f n s r
 | t :: ts,i,0,0,s,r=>by rw[visitsM];exact Nat.le_refl _
 | t :: ts,i,0,n+1,s,r=>by
  rw[visitsM];have h1:=alls_visit G t i s r;have h2:=alls_visits G ts i 0 n (visitM G i t s r).2 (visitM G i t s r).1;omega
end
structure RB (r:RS) (s:Scope) (n:Nat):Prop where
 probs:r.probs.length≤r.next
 ds:r.ds.length≤r.next
 all_:(allS s).length≤r.next
 vis:∀ x ∈ r.vis,x.1 < (r.next:Int)
 room:r.next+n≤r.uses.length
 most:r.uses.length≤1000000
theorem RB.slow {r q:RS} {s s':Scope} {n m:Nat} (h:RB r s n) (k:Slow r q) (ha:(allS s').length+r.next≤(allS s).length+q.next) (hn:q.next+m≤r.next+n):RB q s' m where
 probs:=by have:=h.probs;have:=k.probs;omega
 ds:=by have:=h.ds;have:=k.ds;omega
 all_:=by have:=h.all_;omega
 vis:=k.vis h.vis
 room:=by have:=h.room;rw[k.ulen];omega
 most:=by rw[k.ulen];exact h.most
theorem visits_snoc (G:Glob) (i:Bool):∀ (ts:List Tree) (f n:Nat) (s:Scope) (r:RS) (t:Tree),ts[f+n]? = some t →
 visitsM G i ts f (n+1) s r=visitM G i t (visitsM G i ts f n s r).2 (visitsM G i ts f n s r).1
 | [],f,n,s,r,t,h=>by simp at h
 | u :: ts,f+1,n,s,r,t,h=>by
  rw[visitsM,visitsM];exact visits_snoc G i ts f n s r t (by rw[show f+1+n=(f+n)+1 by omega]at h;simpa using h)
 | u :: ts,0,0,s,r,t,h=>by
  simp at h;subst h;rw[visitsM,visitsM]
  cases ts with
  | nil=>simp only[visitsM]
  | cons=>simp only[visitsM]
 | u :: ts,0,n+1,s,r,t,h=>by
  rw[visitsM,visitsM];exact visits_snoc G i ts 0 n _ _ t (by rw[Nat.zero_add];simpa using h)
theorem visits_zero (G:Glob) (i:Bool) (ts:List Tree) (f:Nat) (s:Scope) (r:RS):visitsM G i ts f 0 s r=(r,s):=by
 induction ts generalizing f with
 | nil=>rw[visitsM]
 | cons t ts ih =>
  cases f with
  | zero=>rw[visitsM]
  | succ f=>rw[visitsM];exact ih f
end Go.Proofs.YtoepemlnlpamlaaGreat
