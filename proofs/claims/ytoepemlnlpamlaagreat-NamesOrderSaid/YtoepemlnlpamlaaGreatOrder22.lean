/- The law NamesOrder holds: for every text and both numbers the law returns true, and its arguments read as before. No condition. Part 22: Ord3 Nam8 Nam9. -/
import Derived.Test.YtoepemlnlpamlaaGreatOrder20
import Derived.Test.YtoepemlnlpamlaaGreatOrder21
namespace Go.Proofs.YtoepemlnlpamlaaGreat
set_option maxRecDepth 100000
set_option maxHeartbeats 4000000
def TopK:Tree→Bool
 | .node k _ _ _ kids=>(decide (k=3) && kids.all fun f=>decide (f.kind=4) && InTs f.kids) || (decide (k=5) && decide (kids.length=3) && InTs kids)
def badF (G:Glob) (fs:List Tree) (n:Nat):Nat:=((numK fs n).filter fun y=>decide ((layM G.fields y.1.text).getD 0≠(y.2:Int))).length
def bad (G:Glob) (k:Tree) (n:Nat):Nat:=(decide ((layM G.globals k.text).getD 0≠(n:Int))).toNat+(if k.kind=3 then badF G k.kids (n+1) else 0)
def own (k:Tree):Nat:=1+(if k.kind=3 then k.kids.length else 0)
theorem bad_rec (G:Glob) (x:ByteArray) (a e:Int) (kids:List Tree) (n:Nat):bad G (.node 3 x a e kids) n=(decide ((layM G.globals x).getD 0≠(n:Int))).toNat+badF G kids (n+1):=by
 unfold bad;rw[if_pos (show (Tree.node 3 x a e kids).kind=3 from rfl)];rfl
theorem bad_proc (G:Glob) (x:ByteArray) (a e:Int) (kids:List Tree) (n:Nat):bad G (.node 5 x a e kids) n=(decide ((layM G.globals x).getD 0≠(n:Int))).toNat:=by
 unfold bad;rw[if_neg (show ¬ (Tree.node 5 x a e kids).kind=3 by show ¬ ((5:Int)=3);decide)];rfl
theorem own_rec (x:ByteArray) (a e:Int) (kids:List Tree):own (.node 3 x a e kids)=1+kids.length:=by
 unfold own;rw[if_pos (show (Tree.node 3 x a e kids).kind=3 from rfl)];rfl
theorem own_proc (x:ByteArray) (a e:Int) (kids:List Tree):own (.node 5 x a e kids)=1:=by
 unfold own;rw[if_neg (show ¬ (Tree.node 5 x a e kids).kind=3 by show ¬ ((5:Int)=3);decide)]
def GrB (m b1 b2 u:Nat) (r1 q1 r2 q2:RS):Prop :=
 ∃ p d,q1.probs.length=r1.probs.length+b1+p∧q2.probs.length=r2.probs.length+b2+p∧q1.ds.length+b1=r1.ds.length+u+d∧q2.ds.length+b2=r2.ds.length+u+d∧q1.next=r1.next+m∧q2.next=r2.next+m
theorem Gro.toB {m:Nat} {r1 q1 r2 q2:RS} (h:Gro m r1 q1 r2 q2):GrB m 0 0 0 r1 q1 r2 q2:=by
 obtain⟨p,d,h⟩:=h;exact⟨p,d,by simpa using h.p1,by simpa using h.p2,by simpa using h.d1,by simpa using h.d2,h.n1,h.n2⟩
theorem GrB.trans {m b1 b2 u m' b1' b2' u' n c1 c2 v:Nat} {r1 q1 t1 r2 q2 t2:RS} (h:GrB m b1 b2 u r1 q1 r2 q2) (k:GrB m' b1' b2' u' q1 t1 q2 t2) (hn:n=m+m') (h1:c1=b1+b1') (h2:c2=b2+b2') (hv:v=u+u'):GrB n c1 c2 v r1 t1 r2 t2:=by
 obtain⟨p,d,a1,a2,a3,a4,a5,a6⟩:=h;obtain⟨p',d',c1',c2',c3',c4',c5',c6'⟩:=k;exact⟨p+p',d+d',by omega,by omega,by omega,by omega,by omega,by omega⟩
theorem grB_declare (r1 r2:RS) (c:Int) (n1 n2:Nat) (t:Tree) (a1 a2:Bool):GrB 0 a1.toNat a2.toNat 1 r1 (declareM r1 c n1 t a1) r2 (declareM r2 c n2 t a2):=by
 refine⟨0,0,?_⟩
 cases a1 <;> cases a2 <;> simp[declareM,sayM,declM]
theorem grB_next (r1 r2:RS) (v1 v2:List (Int × List Int)):GrB 1 0 0 0 r1 { r1 with next:=r1.next+1,vis:=v1 } r2 { r2 with next:=r2.next+1,vis:=v2 }:=⟨0,0,rfl,rfl,rfl,rfl,rfl,rfl⟩
theorem grB_owner (r1 r2:RS) (o1 o2:Int):GrB 0 0 0 0 r1 { r1 with owner:=o1 } r2 { r2 with owner:=o2 }:=⟨0,0,rfl,rfl,rfl,rfl,rfl,rfl⟩
theorem declare_next (r:RS) (c:Int) (n:Nat) (t:Tree) (a:Bool):(declareM r c n t a).next=r.next:=by cases a <;> rfl
theorem badF_cons (G:Glob) (f:Tree) (fs:List Tree) (n:Nat):badF G (f :: fs) n=(decide ((layM G.fields f.text).getD 0≠(n:Int))).toNat+badF G fs (n+countM f):=by
 unfold badF;rw[numK,List.filter_cons]
 by_cases h:(layM G.fields f.text).getD 0=(n:Int)
 ·simp[h]
 ·simp[h];omega
theorem top_fields {G1 G2:Glob} (hG:Agree G1 G2):∀ (fs:List Tree) (s1 s2:Scope) (r1 r2:RS) (n1 n2:Nat),r1.next=n1→r2.next=n2→(fs.all fun f=>decide (f.kind=4) && InTs f.kids)=true→namesS s1=namesS s2 →
 GrB (countsM fs) (badF G1 fs n1) (badF G2 fs n2) fs.length r1 (visitsM G1 false fs 0 fs.length s1 r1).1 r2 (visitsM G2 false fs 0 fs.length s2 r2).1∧namesS (visitsM G1 false fs 0 fs.length s1 r1).2=namesS (visitsM G2 false fs 0 fs.length s2 r2).2
 | [],s1,s2,r1,r2,n1,n2,_,_,_,hs=>by
  simp only[visitsM,List.length_nil];exact⟨(Gro.refl r1 r2).toB,hs⟩
 | .node k x a e kids :: fs,s1,s2,r1,r2,n1,n2,e1,e2,h,hs=>by
  subst e1;subst e2;rw[List.all_cons,Bool.and_eq_true,Bool.and_eq_true,decide_eq_true_eq]at h;obtain⟨⟨hk,hin⟩,hrest⟩:=h;have hk':k=4:=hk;subst hk';have hin':InTs kids=true:=hin;simp only[List.length_cons,visitsM]
  obtain⟨A,hA,B⟩:∃ A:GrB (countM (.node 4 x a e kids)) (decide ((layM G1.fields x).getD 0≠(r1.next:Int))).toNat (decide ((layM G2.fields x).getD 0≠(r2.next:Int))).toNat 1 r1 (visitM G1 false (.node 4 x a e kids) s1 r1).1 r2 (visitM G2 false (.node 4 x a e kids) s2 r2).1,
   ((visitM G1 false (.node 4 x a e kids) s1 r1).1.next=r1.next+countM (.node 4 x a e kids)∧(visitM G2 false (.node 4 x a e kids) s2 r2).1.next=r2.next+countM (.node 4 x a e kids)) ∧
   namesS (visitM G1 false (.node 4 x a e kids) s1 r1).2=namesS (visitM G2 false (.node 4 x a e kids) s2 r2).2:=by
   rw[visitM,visitM,countM];simp only[show ¬ ((4:Int)=3) by decide,if_false,if_true];obtain⟨b1,b2⟩:=gro_visits hG kids false 0 kids.length s1 s2 (declareM { r1 with next:=r1.next+1 } 1 r1.next (.node 4 x a e kids) (decide ((layM G1.fields x).getD 0≠(r1.next:Int)))) (declareM { r2 with next:=r2.next+1 } 1 r2.next (.node 4 x a e kids) (decide ((layM G2.fields x).getD 0≠(r2.next:Int)))) hin' hs;have hg:=(grB_next r1 r2 r1.vis r2.vis).trans ((grB_declare { r1 with next:=r1.next+1 } { r2 with next:=r2.next+1 } 1 r1.next r2.next (.node 4 x a e kids) (decide ((layM G1.fields x).getD 0≠(r1.next:Int))) (decide ((layM G2.fields x).getD 0≠(r2.next:Int)))).trans b1.toB rfl rfl rfl rfl) rfl rfl rfl rfl
   have hm:1+(0+countsM (List.take kids.length (List.drop 0 kids)))=1+countsM kids:=by simp
   rw[hm]at hg;simp only[Nat.zero_add,Nat.add_zero]at hg;refine⟨hg,?_,b2⟩;obtain⟨_,_,_,_,_,_,h5,h6⟩:=hg;exact⟨h5,h6⟩
  obtain⟨c1,c2⟩:=top_fields hG fs _ _ (visitM G1 false (.node 4 x a e kids) s1 r1).1 (visitM G2 false (.node 4 x a e kids) s2 r2).1 _ _ hA.1 hA.2 hrest B;refine⟨A.trans c1 (by rw[countsM]) ?_ ?_ (by omega),c2⟩
  ·rw[badF_cons];rfl
  ·rw[badF_cons];rfl
theorem top_visit {G1 G2:Glob} (hG:Agree G1 G2) (t:Tree) (ht:TopK t=true) (s1 s2:Scope) (r1 r2:RS) (hs:namesS s1=namesS s2) :
 GrB (countM t) (bad G1 t r1.next) (bad G2 t r2.next) (own t) r1 (visitM G1 false t s1 r1).1 r2 (visitM G2 false t s2 r2).1∧namesS (visitM G1 false t s1 r1).2=namesS (visitM G2 false t s2 r2).2:=by
 obtain⟨k,x,a,e,kids⟩:=t;rw[TopK,Bool.or_eq_true,Bool.and_eq_true,Bool.and_eq_true,Bool.and_eq_true,decide_eq_true_eq,decide_eq_true_eq,decide_eq_true_eq]at ht
 rcases ht with ⟨rfl,hf⟩ | ⟨⟨rfl,hl⟩,hin⟩
 ·rw[visitM,visitM,countM]
  simp only[if_true];obtain⟨b1,b2⟩:=top_fields hG kids s1 s2 { declareM { r1 with next:=r1.next+1 } 0 r1.next (.node 3 x a e kids) (decide ((layM G1.globals x).getD 0≠(r1.next:Int))) with owner:=(r1.next:Int) } { declareM { r2 with next:=r2.next+1 } 0 r2.next (.node 3 x a e kids) (decide ((layM G2.globals x).getD 0≠(r2.next:Int))) with owner:=(r2.next:Int) } (r1.next+1) (r2.next+1) (declare_next _ _ _ _ _) (declare_next _ _ _ _ _) hf hs;refine⟨?_,b2⟩;have hg:=(grB_next r1 r2 r1.vis r2.vis).trans ((grB_declare { r1 with next:=r1.next+1 } { r2 with next:=r2.next+1 } 0 r1.next r2.next (.node 3 x a e kids) (decide ((layM G1.globals x).getD 0≠(r1.next:Int))) (decide ((layM G2.globals x).getD 0≠(r2.next:Int)))).trans ((grB_owner _ _ (r1.next:Int) (r2.next:Int)).trans b1 rfl rfl rfl rfl) rfl rfl rfl rfl) rfl rfl rfl rfl;simp only[Nat.zero_add]at hg;rw[bad_rec,bad_rec,own_rec];exact hg
 ·match kids,hl with
  | [u,v,w],_ =>
   rw[visitM,visitM,countM];simp only[show ¬ ((5:Int)=3) by decide,show ¬ ((5:Int)=4) by decide,if_false,if_true];obtain⟨b1,b2⟩:=gro_visits hG [u,v,w] false 0 2 [[]] [[]] { declareM { r1 with next:=r1.next+1 } 2 r1.next (.node 5 x a e [u,v,w]) (decide ((layM G1.globals x).getD 0≠(r1.next:Int))) with owner:=(r1.next:Int) } { declareM { r2 with next:=r2.next+1 } 2 r2.next (.node 5 x a e [u,v,w]) (decide ((layM G2.globals x).getD 0≠(r2.next:Int))) with owner:=(r2.next:Int) } hin rfl;obtain⟨c1,c2⟩:=gro_visits hG [u,v,w] true 2 1 _ _ _ _ hin (cons_agree (l:=[]) (m:=[]) b2 rfl);refine⟨?_,hs⟩;have hg:=(grB_next r1 r2 r1.vis r2.vis).trans ((grB_declare { r1 with next:=r1.next+1 } { r2 with next:=r2.next+1 } 2 r1.next r2.next (.node 5 x a e [u,v,w]) (decide ((layM G1.globals x).getD 0≠(r1.next:Int))) (decide ((layM G2.globals x).getD 0≠(r2.next:Int)))).trans ((grB_owner _ _ (r1.next:Int) (r2.next:Int)).trans (b1.toB.trans c1.toB rfl rfl rfl rfl) rfl rfl rfl rfl) rfl rfl rfl rfl) rfl rfl rfl rfl
   have hm:1+(0+(0+(countsM (List.take 2 (List.drop 0 [u,v,w]))+countsM (List.take 1 (List.drop 2 [u,v,w])))))=1+countsM [u,v,w]:=by simp[countsM];omega
   rw[hm]at hg;simp only[Nat.zero_add,Nat.add_zero]at hg;rw[bad_proc,bad_proc,own_proc];exact hg
def r00:RS:=⟨[],[],[],[],0,0⟩
def probT (G:Glob) (t:Tree):Nat:=(visitM G false t [] r00).1.probs.length - bad G t 0
def decT (G:Glob) (t:Tree):Nat:=(visitM G false t [] r00).1.ds.length+bad G t 0 - own t
theorem top_one {G G2:Glob} (hG:Agree G G2) (t:Tree) (ht:TopK t=true) (s:Scope) (r:RS) (hs:namesS s = []) :
 (visitM G2 false t s r).1.probs.length=r.probs.length+bad G2 t r.next+probT G t∧(visitM G2 false t s r).1.ds.length+bad G2 t r.next=r.ds.length+own t+decT G t∧(visitM G2 false t s r).1.next=r.next+countM t∧namesS (visitM G2 false t s r).2=namesS (visitM G false t [] r00).2:=by
 obtain⟨⟨p,d,h1,h2,h3,h4,h5,h6⟩,h7⟩:=top_visit hG t ht [] s r00 r hs.symm;unfold probT decT;have e1:r00.probs.length=0:=rfl;have e2:r00.ds.length=0:=rfl;have e3:r00.next=0:=rfl;rw[e1,e3]at h1;rw[e2,e3]at h3;refine⟨by omega,by omega,h6,h7.symm⟩
def badS (G:Glob) (L:List (Tree × Nat)):Nat:=(L.map fun y=>bad G y.1 y.2).sum
def sumT (f:Tree→Nat) (ks:List Tree):Nat:=(ks.map f).sum
theorem addTop_len (s:Scope) (l:Lay):(addTop s l).length=s.length:=by cases s <;> rfl
theorem variableM_len (G:Glob) (r:RS) (k:Int) (n:Nat) (t:Tree) (s:Scope):(variableM G r k n t s).2.length=s.length:=by
 unfold variableM;split
 ·rfl
 ·exact addTop_len _ _
mutual
theorem visit_len (G:Glob):∀ (t:Tree) (i:Bool) (s:Scope) (r:RS),(visitM G i t s r).2.length=s.length
 | .node k x a e kids,i,s,r=>by
  rw[visitM_eq];split
  ·exact visits_len G kids _ _ _ _ _
  split
  ·exact visits_len G kids _ _ _ _ _
  split
  ·rfl
  split
  ·rw[visits_len,variableM_len]
  split
  ·rw[List.length_tail,visits_len];rfl
  split
  ·rw[addTop_len,visits_len]
  split
  ·rw[List.length_tail,visits_len,List.length_cons,visits_len];rfl
  ·exact visits_len G kids _ _ _ _ _
theorem visits_len (G:Glob):∀ (ts:List Tree) (i:Bool) (f n:Nat) (s:Scope) (r:RS),(visitsM G i ts f n s r).2.length=s.length
 | [],_,_,_,_,_=>by rw[visitsM]
 | t :: ts,i,f+1,n,s,r=>by rw[visitsM];exact visits_len G ts _ _ _ _ _
 | t :: ts,i,0,0,s,r=>by rw[visitsM]
 | t :: ts,i,0,n+1,s,r=>by rw[visitsM];rw[visits_len G ts,visit_len G t]
end
theorem names_nil {s:Scope} (h:s.length=0):namesS s = []:=by
 cases s with
 | nil=>rfl
 | cons a s=>cases h
theorem top_all {G G2:Glob} (hG:Agree G G2):∀ (ks:List Tree) (s:Scope) (r:RS),(∀ k ∈ ks,TopK k=true)→s.length=0 →
 (visitsM G2 false ks 0 ks.length s r).1.probs.length=r.probs.length+badS G2 (numK ks r.next)+sumT (probT G) ks ∧
 (visitsM G2 false ks 0 ks.length s r).1.ds.length+badS G2 (numK ks r.next)=r.ds.length+sumT own ks+sumT (decT G) ks
 | [],s,r,_,_=>by simp[visitsM,badS,sumT,numK]
 | k :: ks,s,r,hk,hs=>by
  simp only[List.length_cons,visitsM];obtain⟨h1,h2,h3,h4⟩:=top_one hG k (hk k (by simp)) s r (names_nil hs);obtain⟨h5,h6⟩:=top_all hG ks (visitM G2 false k s r).2 (visitM G2 false k s r).1 (fun x hx=>hk x (by simp[hx])) (by rw[visit_len];exact hs);rw[h3]at h5 h6;simp only[badS,sumT,numK,List.map_cons,List.sum_cons]at h5 h6 ⊢;omega
theorem sumT_perm {f:Tree→Nat} {a b:List Tree} (h:a.Perm b):sumT f a=sumT f b:=(h.map f).sum_nat
theorem bad_zero {ks:List Tree} (hk:∀ k ∈ ks,TopK k=true):badS (globM ks) (numK ks 1)=0↔(ks.map Tree.text).Nodup∧((fieldsOf ks).map Tree.text).Nodup:=by
 have hgp:((nameN (numK ks 1))).Pairwise fun a b=>a.2 < b.2:=List.pairwise_map.2 ((numK_pw ks 1).imp fun h=>h)
 have hfp:((nameN (numF ks 1))).Pairwise fun a b=>a.2 < b.2:=List.pairwise_map.2 ((numF_pw ks 1).imp fun h=>h)
 have hg:(ks.map Tree.text).Nodup↔Own1 (nameN (numK ks 1)):=by
  have e:ks.map Tree.text=(nameN (numK ks 1)).map (·.1):=by rw[nameN_names,numK_map]
  rw[e];exact⟨nodup_own1,own1_nodup hgp⟩
 have hf:((fieldsOf ks).map Tree.text).Nodup↔Own1 (nameN (numF ks 1)):=by
  have e:(fieldsOf ks).map Tree.text=(nameN (numF ks 1)).map (·.1):=by rw[nameN_names,numF_map]
  rw[e];exact⟨nodup_own1,own1_nodup hfp⟩
 have key:∀ (L:List (ByteArray × Nat)),(∀ y ∈ L,1≤y.2)→(Own1 L↔∀ y ∈ L,((L.find? fun z=>decide (y.1=z.1)).map fun z=>(z.2:Int)).getD 0=(y.2:Int)):=by
  intro L hpos;unfold Own1;refine⟨fun h y hy=>?_,fun h y hy=>?_⟩
  ·have:=h y hy
   cases hc:L.find? fun z=>decide (y.1=z.1) with
   | none=>rw[hc]at this;cases this
   | some z =>
    rw[hc]at this;simp only[Option.map_some,Option.some.injEq,Option.getD_some]at this ⊢;omega
  ·have:=h y hy
   have hp:=hpos y hy
   cases hc:L.find? fun z=>decide (y.1=z.1) with
   | none=>rw[hc]at this;simp at this;omega
   | some z =>
    rw[hc]at this;simp only[Option.map_some,Option.some.injEq,Option.getD_some]at this ⊢;omega
 have hG:Own1 (nameN (numK ks 1))↔∀ y ∈ numK ks 1,(layM (globM ks).globals y.1.text).getD 0=(y.2:Int):=by
  rw[key _ (fun y hy=>by obtain⟨z,hz,rfl⟩:=List.mem_map.1 hy;exact(numK_bounds ks 1 z hz).1)];refine⟨fun h y hy=>?_,fun h y hy=>?_⟩
  ·rw[glob_gl];exact h (y.1.text,y.2) (List.mem_map_of_mem (f:=fun y:Tree × Nat=>(y.1.text,y.2)) hy)
  ·obtain⟨z,hz,rfl⟩:=List.mem_map.1 hy
   have:=h z hz;rw[glob_gl]at this;exact this
 have hF:Own1 (nameN (numF ks 1))↔∀ y ∈ numF ks 1,(layM (globM ks).fields y.1.text).getD 0=(y.2:Int):=by
  rw[key _ (fun y hy=>by obtain⟨z,hz,rfl⟩:=List.mem_map.1 hy;exact Nat.le_of_lt (numF_bounds ks 1 z hz).1)];refine⟨fun h y hy=>?_,fun h y hy=>?_⟩
  ·rw[glob_fl];exact h (y.1.text,y.2) (List.mem_map_of_mem (f:=fun y:Tree × Nat=>(y.1.text,y.2)) hy)
  ·obtain⟨z,hz,rfl⟩:=List.mem_map.1 hy
   have:=h z hz;rw[glob_fl]at this;exact this
 rw[hg,hf,hG,hF]
 have kids_:∀ (js:List Tree) (n:Nat),(∀ k ∈ js,TopK k=true)→(badS (globM ks) (numK js n)=0↔(∀ y ∈ numK js n,(layM (globM ks).globals y.1.text).getD 0=(y.2:Int))∧∀ y ∈ numF js n,(layM (globM ks).fields y.1.text).getD 0=(y.2:Int)):=by
  intro js
  induction js with
  | nil=>intro n _;simp[badS,numK,numF]
  | cons k js ih =>
   intro n hj;have hb:=ih (n+countM k) (fun x hx=>hj x (by simp[hx]));have hkk:=hj k (by simp)
   have h1:badS (globM ks) (numK (k :: js) n)=bad (globM ks) k n+badS (globM ks) (numK js (n+countM k)):=by simp[badS,numK]
   have h2:bad (globM ks) k n=0↔(layM (globM ks).globals k.text).getD 0=(n:Int)∧∀ y ∈ (numK k.kids (n+1)).filter (fun y=>decide (y.1.kind=4)),(layM (globM ks).fields y.1.text).getD 0=(y.2:Int):=by
    obtain⟨kk,x,a,e,kids⟩:=k;rw[TopK,Bool.or_eq_true,Bool.and_eq_true,Bool.and_eq_true,Bool.and_eq_true,decide_eq_true_eq,decide_eq_true_eq,decide_eq_true_eq]at hkk
    have hone:(decide ((layM (globM ks).globals x).getD 0≠(n:Int))).toNat=0↔(layM (globM ks).globals x).getD 0=(n:Int):=by
     by_cases h:(layM (globM ks).globals x).getD 0=(n:Int)
     ·simp[h]
     ·simp[h]
    rcases hkk with ⟨rfl,hf⟩ | ⟨⟨rfl,hl⟩,hin⟩
    ·rw[bad_rec,Nat.add_eq_zero_iff,hone]
     refine and_congr Iff.rfl ?_;show badF (globM ks) kids (n+1)=0↔∀ y ∈ (numK kids (n+1)).filter (fun y=>decide (y.1.kind=4)),_;unfold badF;rw[List.length_eq_zero_iff,List.filter_eq_nil_iff]
     have hall:∀ y ∈ numK kids (n+1),y.1.kind=4:=fun y hy=>by
      have h3:=List.mem_map_of_mem (f:=(·.1)) hy;rw[numK_map]at h3;have:=List.all_eq_true.1 hf y.1 h3;rw[Bool.and_eq_true,decide_eq_true_eq]at this;exact this.1
     refine⟨fun h y hy=>?_,fun h y hy=>?_⟩
     ·have:=h y ((List.mem_filter.1 hy).1)
      simpa using this
     ·have:=h y (List.mem_filter.2 ⟨hy,decide_eq_true (hall y hy)⟩)
      simp[this]
    ·rw[bad_proc,hone]
     have hnone:(numK kids (n+1)).filter (fun y=>decide (y.1.kind=4)) = []:=by
      rw[List.filter_eq_nil_iff];intro y hy;have h3:=List.mem_map_of_mem (f:=(·.1)) hy;rw[numK_map]at h3;have h4:=InTs_mem hin _ h3;obtain⟨⟨k4,x4,a4,e4,kids4⟩,m4⟩:=y;rw[InT]at h4;simp only[Bool.and_eq_true,decide_eq_true_eq]at h4;show ¬ decide (k4=4)=true;rw[decide_eq_true_eq];exact h4.1.1.1.2.2.1
     show _↔_∧∀ y ∈ (numK kids (n+1)).filter (fun y=>decide (y.1.kind=4)),_;rw[hnone];simp[Tree.text]
   rw[h1,Nat.add_eq_zero_iff,h2,hb,numK,numF]
   constructor
   ·rintro⟨⟨a1,a2⟩,a3,a4⟩
    refine⟨fun y hy=>?_,fun y hy=>?_⟩
    ·rcases List.mem_cons.1 hy with rfl | hy
     ·exact a1
     ·exact a3 y hy
    ·rcases List.mem_append.1 hy with hy | hy
     ·exact a2 y hy
     ·exact a4 y hy
   ·rintro⟨a1,a2⟩
    exact⟨⟨a1 (k,n) (by simp),fun y hy=>a2 y (List.mem_append_left _ hy)⟩,fun y hy=>a1 y (by simp[hy]),fun y hy=>a2 y (List.mem_append_right _ hy)⟩
 exact kids_ ks 1 hk
theorem resolve_prog (x:ByteArray) (a e:Int) (ks:List Tree):∃ r:RS,r.probs = []∧r.ds = []∧r.next=1∧(resolveM (.node 2 x a e ks)).probs=(visitsM (globM ks) false ks 0 ks.length [] r).1.probs∧(resolveM (.node 2 x a e ks)).ds=(visitsM (globM ks) false ks 0 ks.length [] r).1.ds:=by
 refine⟨⟨[],List.replicate (countM (.node 2 x a e ks)) (-1),[],[],1,0⟩,rfl,rfl,rfl,?_,?_⟩
 all_goals
  unfold resolveM;simp only[visitM];rfl
theorem order_clean {x x':ByteArray} {a e a' e':Int} {ks ks':List Tree} (hp:ks.Perm ks') (hk:∀ k ∈ ks,TopK k=true) (h:(resolveM (.node 2 x a e ks)).probs = []) :
 (resolveM (.node 2 x' a' e' ks')).probs = []∧(resolveM (.node 2 x' a' e' ks')).ds.length=(resolveM (.node 2 x a e ks)).ds.length:=by
 obtain⟨r,r1,r2,r3,r4,r5⟩:=resolve_prog x a e ks;obtain⟨q,q1,q2,q3,q4,q5⟩:=resolve_prog x' a' e' ks';rw[r4]at h;obtain⟨h1,h2⟩:=top_all (Agree.refl (globM ks)) ks [] r hk rfl;rw[h,r1,r3]at h1;rw[r2,r3]at h2;have h1':=h1.symm;simp only[List.length_nil,Nat.zero_add,Nat.add_eq_zero_iff]at h1';obtain⟨n1,n2⟩:=(bad_zero hk).1 h1'.1
 have hk':∀ k ∈ ks',TopK k=true:=fun k hx=>hk k (hp.mem_iff.2 hx)
 have hag:=agree_perm hp n1;obtain⟨g1,g2⟩:=top_all hag ks' [] q hk' rfl;have hb:=(bad_zero hk').2 ⟨(hp.map _).nodup_iff.1 n1,((fieldsOf_perm hp).map _).nodup_iff.1 n2⟩;rw[q1,q3,hb,← sumT_perm hp,h1'.2]at g1;rw[q2,q3,hb,← sumT_perm hp,← sumT_perm hp]at g2;rw[h1'.1]at h2;refine⟨?_,?_⟩
 ·rw[q4];exact List.length_eq_zero_iff.1 (by simpa using g1)
 ·rw[q5,r5];omega
end Go.Proofs.YtoepemlnlpamlaaGreat
namespace Go.Proofs.YtoepemlnlpamlaaGreat
set_option maxRecDepth 100000
set_option maxHeartbeats 4000000
open Go.RowKit
def VisitC (E:RC) (G:Glob) (B:Nat) (t:Tree):Prop :=
 ∀ (i:Bool) (s:Scope) (p:Option Addr) (ms:List Nat) (r:RS) (V:RV) (w:World) (A:Option Addr) (c:Nat),
  RSAt E G r V w→ScAt w E.base p s ms→Sep E ms→KidsAt w B A 0 t.kids→t.kids.length≤c→E.base≤w.heap.size→VOk s.isEmpty t=true→RB r s (countM t) →
  Calls Tryz.prog 79 #[.pointer (some ⟨E.rp,0,none⟩),nodeV t A c,.pointer p,.bool i] w fun e w'=>e = .returned (.tuple #[])∧∃ V',RSAt E G (visitM G i t s r).1 V' w'∧ScAt w' E.base p (visitM G i t s r).2 ms∧KX E (fun g=>g=E.vi∨ms.head? = some g) w w'
theorem isEmpty_len {α:Type} {a b:List α} (h:a.length=b.length):a.isEmpty=b.isEmpty:=by
 cases a <;> cases b <;> first | rfl | cases h
theorem run_slice_mid {P:Program} (w:World) (t e:TypeId) (i:TypeInfo) (ht:P.underlying t=some (.slice e)) (hi:P.info? e=some i) (a:Option Addr) (len cap lo hi_:Nat) (h1:lo≤hi_) (h2:hi_≤cap) :
 (Instr.slice t (.slice a len cap) (some (.int .i64 (lo:Int))) (some (.int .i64 (hi_:Int))) none).run P w = .ok (.slice (if cap=lo then a else a.map (·.add (lo * i.size))) (hi_ - lo) (cap - lo)) w:=by
 simp[Instr.slice,run_underlying ht,Instr.sliceBounds,Instr.sliceBound,asIntOf,sizeOf,typeInfo,hi];rw[if_pos h2,if_pos h1]
theorem RSAt.notPtr {E:RC} {G:Glob} {r:RS} {V:RV} {w:World} (h:RSAt E G r V w) {g:Nat} {cs:Array Value} (hb:Blk w g 68 cs):E.uA.map (·.block)≠some g:=by
 intro hg
 have hv:(Value.slice E.uA r.uses.length E.uc).ownBlock=some g:=by
  cases hA:E.uA with
  | none=>rw[hA]at hg;cases hg
  | some p=>rw[hA]at hg;simpa [Value.ownBlock] using hg
 exact h.us.ne_blk hb (by decide) hv
theorem kids_any (E:RC) (G:Glob) (B:Nat) (hB:B≤E.base) (kids:List Tree) (hih:∀ k ∈ kids,VisitC E G B k) (i:Bool) (s:Scope) (p:Option Addr) (ms:List Nat) (r:RS) (V:RV) (w:World)
 (k0:Int) (x0:ByteArray) (a0 z0:Int) (A:Option Addr) (nk c f n to_ bn br:Nat) (hnk:kids.length=nk) (hto:to_=f+n) (h:RSAt E G r V w) (hs:ScAt w E.base p s ms) (hsep:Sep E ms) (hk:KidsAt w B A 0 kids) (hcap:nk≤c) (hfn:f+n≤nk) (hbase:E.base≤w.heap.size)
 (hbn:Blk w bn 24 #[.int .i64 k0,.string x0,.int .i64 a0,.int .i64 z0,.slice A nk c]) (hbr:Blk w br 68 #[.pointer (some ⟨E.rp,0,none⟩)]) (hv:VOks s.isEmpty kids=true) (hrb:RB r s (countsM ((kids.drop f).take n))) :
 Calls Tryz.prog 146 #[.int .i64 (f:Int),.int .i64 (to_:Int),.pointer p,.bool i,.pointer (some ⟨bn,0,none⟩),.pointer (some ⟨br,0,none⟩)] w fun e w'=>e = .returned (.tuple #[])∧∃ V',RSAt E G (visitsM G i kids f n s r).1 V' w'∧ScAt w' E.base p (visitsM G i kids f n s r).2 ms∧KX E (fun g=>g=E.vi∨ms.head? = some g) w w':=by
 obtain⟨i0,hi0,hz0,hz1,hz2⟩:=info_parts node_info;have hsl:=run_slice_mid (P:=Tryz.prog) w 22 24 i0 Tryz.underlying22 hi0 A nk c f to_ (by omega) (by omega);rw[hz1,show to_ - f=n by omega]at hsl
 obtain⟨A1,hA1⟩:∃ A1,(if c=f then A else A.map (·.add (f * 5)))=A1:=⟨_,rfl⟩
 rw[hA1]at hsl
 obtain⟨c1,hc1⟩:∃ q,c - f=q:=⟨_,rfl⟩
 rw[hc1]at hsl
 have hnm:n≤1000000:=by
  have h1:=hrb.room;have h2:=hrb.most;have h3:=counts_len ((kids.drop f).take n);simp at h3;omega
 have b4:=hbn.cell 4;have lb:=hbn.lt;have HA1:=kH hA1;have HIH:=kH hih;have H:=kH h;have HS:=kH hs;have HK:=kH hk;have HBN:=kH hbn;have HBR:=kH hbr;have HV:=kH hv;have HRB:=kH hrb;have HNK:=kH hnk;have HFN:Hid (f+n≤nk∧nk≤c∧B≤E.base∧E.base≤w.heap.size):=kH ⟨hfn,hcap,hB,hbase⟩;clear hA1 hih h hs hk hbn hbr hv hrb hnk hto hcap hfn hB hbase hc1 hi0 hz0 hz1 hz2
 go_enter Tryz.func146,Tryz.ntmps146
 go_wp2_with fail
 go_loopg [18] n (fun gk s18 wr => ∃ (j:Nat) (Vj:RV),j+gk=n∧s18 = .int .i64 (j:Int)∧Hid (RSAt E G (visitsM G i kids f j s r).1 Vj wr)∧Hid (ScAt wr E.base p (visitsM G i kids f j s r).2 ms)∧Hid (KX E (fun g=>g=E.vi∨ms.head? = some g) w wr))
 case atStart=>exact⟨0,V,by omega,rfl,by rw[visits_zero];exact H,by rw[visits_zero];exact HS,kH (KX.refl _ _ _)⟩
 case round =>
  obtain⟨j,Vj,hj,rfl,Hj,HSj,HKj⟩:=hrel;have HJ:=kH hj
  have hjn:j≤n:=by omega
  clear hj
  by_cases hlt:j < n
  ·have hlt':(j:Int) < (n:Int):=by omega
   obtain⟨u,hu⟩:∃ u,kids[f+j]? = some u:=⟨_,List.getElem?_eq_getElem (by rw[HNK.out];have:=HFN.out;omega)⟩
   have hbW:Below E.base w wr:=HKj.out.low HFN.out.2.2.2;have hkr:KidsAt wr B A 0 kids:=KidsAt.below (hbW.mono HFN.out.2.2.1) (Nat.le_refl _) _ _ _ HK.out;obtain⟨vals,⟨b,off,hA,hbl,hcs⟩,hT⟩:=hkr.get (f+j) u hu;obtain⟨A',c',hvals,hK'⟩:=hT.five;subst hA;subst hvals;have hcu:=hT.cap;have hsz:=HKj.out.size
   have hA1:A1=some ⟨b,off+f * 5,none⟩:=by
    rw[← HA1.out,if_neg (by have:=HFN.out;omega)];simp[Addr.add_lit]
   subst hA1
   have hbb:b < wr.heap.size:=by have:=HFN.out;omega
   obtain⟨uk,huk⟩:∃ q,u.kind=q:=⟨_,rfl⟩
   obtain⟨ux,hux⟩:∃ q,u.text=q:=⟨_,rfl⟩
   obtain⟨ua,hua⟩:∃ q,u.at_=q:=⟨_,rfl⟩
   obtain⟨uz,huz⟩:∃ q,u.end_=q:=⟨_,rfl⟩
   obtain⟨un,hun⟩:∃ q,u.kids.length=q:=⟨_,rfl⟩
   have hcs':∀ q v,[Value.int .i64 uk,.string ux,.int .i64 ua,.int .i64 uz,.slice A' un c'][q]? = some v→wr.cell? ⟨b,off+f * 5+j * 5+q,none⟩=some v:=fun q v hq=>by
    have:=hcs q v (by rw[huk,hux,hua,huz,hun];exact hq);rw[show off+(0+(f+j)) * 5+q=off+f * 5+j * 5+q by omega]at this;exact this
   have t0:wr.cell? ⟨b,off+f * 5+j * 5,none⟩=some (.int .i64 uk):=by simpa using hcs' 0 _ rfl
   have t1:wr.cell? ⟨b,off+f * 5+j * 5+1,none⟩=some (.string ux):=by simpa using hcs' 1 _ rfl
   have t2:wr.cell? ⟨b,off+f * 5+j * 5+2,none⟩=some (.int .i64 ua):=by simpa using hcs' 2 _ rfl
   have t3:wr.cell? ⟨b,off+f * 5+j * 5+3,none⟩=some (.int .i64 uz):=by simpa using hcs' 3 _ rfl
   have t4:wr.cell? ⟨b,off+f * 5+j * 5+4,none⟩=some (.slice A' un c'):=by simpa using hcs' 4 _ rfl
   have hbR:=HKj.out.blk HBR.out (by decide) (by decide) (by decide) (H.out.notPtr HBR.out);have hmem:u ∈ kids:=List.mem_of_getElem? hu
   have hrbj:RB (visitsM G i kids f j s r).1 (visitsM G i kids f j s r).2 (countM u):=by
    refine HRB.out.slow (visits_slow G kids i f j s r) (alls_visits G kids i f j s r) ?_;have h1:=nexts_le G kids i f j s r
    have h2:((kids.drop f).take n)[j]? = some u:=by rw[List.getElem?_take_of_lt hlt,List.getElem?_drop];exact hu
    have h3:=countsM_take _ j u h2;have h4:=countsM_le ((kids.drop f).take n) (j+1)
    have e:((kids.drop f).take n).take j=(kids.drop f).take j:=by rw[List.take_take,Nat.min_eq_left hjn]
    rw[e]at h3;omega
   have hvj:VOk (visitsM G i kids f j s r).2.isEmpty u=true:=by
    rw[isEmpty_len (visits_len G kids i f j s r)];exact VOks_mem HV.out u hmem
   obtain⟨X,hX⟩:∃ X,wr.alloc (.cells #[.int .i64 uk,.string ux,.int .i64 ua,.int .i64 uz,.slice A' un c'] 24)=X:=⟨_,rfl⟩
   have hbX:Below wr.heap.size wr X:=by rw[← hX];exact below_alloc _ _
   have hcall:=HIH.out u hmem i (visitsM G i kids f j s r).2 p ms (visitsM G i kids f j s r).1 Vj X A' c' (Hj.out.below hbX) (HSj.out.below hbX) hsep (KidsAt.below hbX (by have:=HFN.out;omega) _ _ _ hK') hcu (by have:=HFN.out;have:=hbX.size;omega) hvj hrbj;unfold nodeV at hcall;rw[huk,hux,hua,huz,hun,← visits_snoc G i kids f j s r u hu]at hcall;have HC:=kH hcall;have HBX:=kH hbX
   have hTX:Blk X wr.heap.size 24 #[.int .i64 uk,.string ux,.int .i64 ua,.int .i64 uz,.slice A' un c']:=by rw[← hX];exact Blk.new wr _ _
   have hRX:=hbR.below hbX hbR.lt;have r0:=hRX.cell 0;have lr:=hRX.lt;have y0:=hTX.cell 0;have y1:=hTX.cell 1;have y2:=hTX.cell 2;have y3:=hTX.cell 3;have y4:=hTX.cell 4;have ly:=hTX.lt;have hwj:IntKind.i64.wrap ((j:Int)+1)=(j:Int)+1:=IntWalk.i64_in _ (by omega);clear hcs hcs' hT hK' hkr hbW hu hcall hbX hrbj hvj hmem huk hux hua huz hun hcu hbR hTX hRX
   go_wp2_with (rw[hX])
   refine HC.out.mono ?_;rintro e w5 ⟨rfl,V5,h5,s5,k5⟩;have H5:=kH h5;have S5:=kH s5;have K5:Hid (KX E (fun g=>g=E.vi∨ms.head? = some g) w w5):=kH (HKj.out.trans ((KX.of_below (M:=fun g=>g=E.vi∨ms.head? = some g) HBX.out).trans k5 (fun g hg=>.inl hg)) (fun g hg=>.inl hg));clear h5 s5 k5 t0 t1 t2 t3 t4 r0 y0 y1 y2 y3 y4 lr ly
   go_wp2_with fail
   go_roundg (gk - 1)
   case measure=>have:=HJ.out;omega
   case rel=>exact⟨j+1,V5,by have:=HJ.out;omega,by simp,H5,S5,K5⟩
  ·have hje:j=n:=by omega
   subst hje
   go_wp2_with fail
   go_end0
   exact⟨rfl,Vj,Hj.out,HSj.out,HKj.out⟩
end Go.Proofs.YtoepemlnlpamlaaGreat
namespace Go.Proofs.YtoepemlnlpamlaaGreat
set_option maxRecDepth 100000
set_option maxHeartbeats 4000000
open Go.RowKit
theorem RSAt.setNext {E:RC} {G:Glob} {r:RS} {V:RV} {w:World} (h:RSAt E G r V w) (n:Nat) (M:Nat→Prop) :
 RSAt E G { r with next:=n } V (w.setCell ⟨E.rp,7,none⟩ (.int .i64 (n:Int)))∧KX E M w (w.setCell ⟨E.rp,7,none⟩ (.int .i64 (n:Int))):=by
 have hs:Since (fun g=>g=E.rp) w (w.setCell ⟨E.rp,7,none⟩ (.int .i64 (n:Int))):=Since.setCell (S:=fun g=>g=E.rp) (Since.refl _ w) (p:=⟨E.rp,7,none⟩) (.inl rfl) _
 have ham:∀ {K:Type} [DecidableEq K] {KK:KeyK K} {q:Nat} {m:List (K × Value)},AMap KK w q m→AMap KK (w.setCell ⟨E.rp,7,none⟩ (.int .i64 (n:Int))) q m:=fun ha=>ha.since hs (fun h1=>ha.not_blk h.blk h1)
 have how:∀ {e size v n' xs},OwnS w E.base e size v n' xs→e≠75→OwnS (w.setCell ⟨E.rp,7,none⟩ (.int .i64 (n:Int))) E.base e size v n' xs:=fun ha h1=>ha.since hs (fun g hg h3=>ha.ne_blk h.blk h1 (by rw[hg,h3]))
 refine⟨⟨?_,ham h.gl,ham h.fl,ham h.kn,ham h.vi,?_,how h.ds (by decide),how h.us (by decide),how h.ps (by decide),h.low,h.apart⟩,?_⟩
 ·have:=h.blk.set_ 7 (.int .i64 (n:Int))
  simpa using this
 ·refine VisAt.of_block h.vis fun g cur hg _=>hs.block g (Array.getElem?_eq_some_iff.1 hg).1 fun h1=>?_
  subst h1;have hb:w.heap[E.rp]? = some (.cells _ 75 (0,0)):=h.blk;rw[hb]at hg;simp at hg
 ·refine Since.mono hs fun g h1=>?_
  subst h1;exact⟨h.low.1,.inl ⟨_,_,_,h.blk,.inl rfl⟩⟩
theorem RSAt.setOwner {E:RC} {G:Glob} {r:RS} {V:RV} {w:World} (h:RSAt E G r V w) (n:Int) (M:Nat→Prop) :
 RSAt E G { r with owner:=n } V (w.setCell ⟨E.rp,8,none⟩ (.int .i64 n))∧KX E M w (w.setCell ⟨E.rp,8,none⟩ (.int .i64 n)):=by
 have hs:Since (fun g=>g=E.rp) w (w.setCell ⟨E.rp,8,none⟩ (.int .i64 n)):=Since.setCell (S:=fun g=>g=E.rp) (Since.refl _ w) (p:=⟨E.rp,8,none⟩) (.inl rfl) _
 have ham:∀ {K:Type} [DecidableEq K] {KK:KeyK K} {q:Nat} {m:List (K × Value)},AMap KK w q m→AMap KK (w.setCell ⟨E.rp,8,none⟩ (.int .i64 n)) q m:=fun ha=>ha.since hs (fun h1=>ha.not_blk h.blk h1)
 have how:∀ {e size v n' xs},OwnS w E.base e size v n' xs→e≠75→OwnS (w.setCell ⟨E.rp,8,none⟩ (.int .i64 n)) E.base e size v n' xs:=fun ha h1=>ha.since hs (fun g hg h3=>ha.ne_blk h.blk h1 (by rw[hg,h3]))
 refine⟨⟨?_,ham h.gl,ham h.fl,ham h.kn,ham h.vi,?_,how h.ds (by decide),how h.us (by decide),how h.ps (by decide),h.low,h.apart⟩,?_⟩
 ·have:=h.blk.set_ 8 (.int .i64 n)
  simpa using this
 ·refine VisAt.of_block h.vis fun g cur hg _=>hs.block g (Array.getElem?_eq_some_iff.1 hg).1 fun h1=>?_
  subst h1;have hb:w.heap[E.rp]? = some (.cells _ 75 (0,0)):=h.blk;rw[hb]at hg;simp at hg
 ·refine Since.mono hs fun g h1=>?_
  subst h1;exact⟨h.low.1,.inl ⟨_,_,_,h.blk,.inl rfl⟩⟩
theorem VisAt.snoc {w:World} {base:Nat} {ub:Option Nat} {k:Int} {l0:List Int} {v:Value} (ho:OwnS w base 3 1 v l0.length (ivs l0)) (hu:∀ g,v.ownBlock=some g→ub≠some g):∀ {l:List (Int × List Int)} {vals:List (Int × Value)},VisAt w base ub l vals→(∀ g,v.ownBlock=some g→∀ y ∈ vals,y.2.ownBlock≠some g)→VisAt w base ub (l ++ [(k,l0)]) (vals ++ [(k,v)])
 | [],vals,h,hn=>by
  have:vals = []:=h;subst this;exact⟨v,[],rfl,ho,fun g hg=>⟨hu g hg,by simp⟩,rfl⟩
 | x :: l,vals,h,hn=>by
  obtain⟨v1,vs,rfl,h2,h3,h4⟩:=h;refine⟨v1,vs ++ [(k,v)],rfl,h2,fun g hg=>⟨(h3 g hg).1,fun y hy=>?_⟩,VisAt.snoc ho hu h4 fun g hg y hy=>hn g hg y (by simp[hy])⟩
  rcases List.mem_append.1 hy with hy | hy
  ·exact(h3 g hg).2 y hy
  ·rw[List.mem_singleton]at hy
   subst hy
   exact fun e=>hn g e (x.1,v1) (by simp) hg
theorem VisAt.lt {w:World} {base:Nat} {ub:Option Nat}:∀ {l:List (Int × List Int)} {vals:List (Int × Value)},VisAt w base ub l vals→∀ y ∈ vals,∀ g,y.2.ownBlock=some g→g < w.heap.size
 | [],vals,h,y,hy=>by
  have:vals = []:=h;subst this
  cases hy
 | x :: l,vals,h,y,hy=>by
  obtain⟨v1,vs,rfl,h2,h3,h4⟩:=h
  rcases List.mem_cons.1 hy with rfl | hy
  ·exact fun g hg=>(h2.lt g hg).2
  ·exact VisAt.lt h4 y hy
theorem VisAt.keys {w:World} {base:Nat} {ub:Option Nat}:∀ {l:List (Int × List Int)} {vals:List (Int × Value)},VisAt w base ub l vals→vals.map (·.1)=l.map (·.1)
 | [],vals,h=>by
  have:vals = []:=h;subst this;rfl
 | x :: l,vals,h=>by
  obtain⟨v1,vs,rfl,h2,h3,h4⟩:=h;simp[VisAt.keys h4]
theorem setM_new {K:Type} [DecidableEq K]:∀ {m:List (K × Value)} {k:K} (v:Value),k ∉ m.map (·.1)→setM m k v=m ++ [(k,v)]
 | [],_,_,_=>rfl
 | x :: m,k,v,h=>by
  rw[List.map_cons,List.mem_cons]at h
  have hk:k≠x.1:=fun e=>h (.inl e)
  rw[setM_cons_ne _ _ _ _ hk,setM_new v fun h1=>h (.inr h1)];rfl
theorem setL_new1 {K V:Type} [DecidableEq K]:∀ {l:List (K × V)} {k:K} (v:V),k ∉ l.map (·.1)→setL l k v=l ++ [(k,v)]
 | [],_,_,_=>rfl
 | x :: l,k,v,h=>by
  rw[List.map_cons,List.mem_cons]at h
  have hk:k≠x.1:=fun e=>h (.inl e)
  rw[setL,if_neg hk,setL_new1 v fun h1=>h (.inr h1)];rfl
theorem RSAt.noteVis {E:RC} {G:Glob} {r:RS} {V:RV} {w w1 w':World} (h:RSAt E G r V w) (hbs:E.base≤w.heap.size) (hb:Below w.heap.size w w1) (n:Int) (l:List Int) (v:Value) (ho:OwnS w1 w.heap.size 3 1 v l.length (ivs l)) (hn:n ∉ r.vis.map (·.1)) (M:Nat→Prop) (hM:M E.vi)
 (hm:AMap intK w' E.vi (setM V.vals n v)) (hs:Since (fun g=>g=E.vi) w1 w') :
 RSAt E G { r with vis:=setL r.vis n l } { V with vals:=setM V.vals n v } w'∧KX E M w w':=by
 have h1:=h.below hb;have hmap:=h1.vi.isMap
 have hnot:∀ {g:Nat} {t:TypeId} {cs:Array Value},Blk w1 g t cs→g≠E.vi:=fun hb e=>by
  obtain⟨es,ck,ho⟩:=hmap;subst e;have:w1.heap[_]? = some (Obj.cells _ _ (0,0)):=hb;rw[ho]at this
  cases this
 have how:∀ {e size v n xs base},OwnS w1 base e size v n xs→OwnS w' base e size v n xs:=fun ha=>ha.since hs (fun g hg e=>by
  subst e;obtain⟨cur,hc⟩:=ha.obj _ hg;obtain⟨es,ck,ho⟩:=hmap;rw[ho]at hc
  cases hc)
 have hkeys:n ∉ V.vals.map (·.1):=by rw[h.vis.keys];exact hn
 refine⟨⟨h1.blk.since hs (hnot h1.blk),h1.gl.since hs (fun e=>h.apart.1 e.symm),h1.fl.since hs (fun e=>h.apart.2.1 e.symm),h1.kn.since hs (fun e=>h.apart.2.2 e.symm),hm,?_,how h1.ds,how h1.us,how h1.ps,h.low,h.apart⟩,?_⟩
 ·show VisAt w' E.base (Value.slice E.uA r.uses.length E.uc).ownBlock (setL r.vis n l) (setM V.vals n v)
  rw[setL_new1 l hn,setM_new v hkeys];refine VisAt.snoc (how (ho.mono hbs)) (fun g hg e=>?_) (VisAt.of_block h1.vis fun g cur hg _=>hs.block g (Array.getElem?_eq_some_iff.1 hg).1 fun e=>?_) (fun g hg y hy e=>?_)
  ·have h3:=(ho.lt g hg).1
   have h4:=(h.us.lt g e).2;omega
  ·subst e
   obtain⟨es,ck,ho⟩:=hmap;rw[ho]at hg
   cases hg
  ·have h3:=(ho.lt g hg).1
   have h4:=h.vis.lt y hy g e;omega
 ·exact(KX.of_below (M:=M) hb).trans (KX.map_ hs hM h.low.2 hmap) (fun g hg=>.inl hg)
theorem RSAt.node_at {E:RC} {G:Glob} {r:RS} {V:RV} {w w':World} {M:Nat→Prop} (h:RSAt E G r V w) (hk:KX E M w w') {g:Nat} {cs:Array Value} (hb:Blk w g 24 cs):Blk w' g 24 cs:=hk.blk hb (by decide) (by decide) (by decide) (h.notNode hb)
theorem RSAt.ptr_at {E:RC} {G:Glob} {r:RS} {V:RV} {w w':World} {M:Nat→Prop} (h:RSAt E G r V w) (hk:KX E M w w') {g:Nat} {cs:Array Value} (hb:Blk w g 68 cs):Blk w' g 68 cs:=hk.blk hb (by decide) (by decide) (by decide) (h.notPtr hb)
end Go.Proofs.YtoepemlnlpamlaaGreat
